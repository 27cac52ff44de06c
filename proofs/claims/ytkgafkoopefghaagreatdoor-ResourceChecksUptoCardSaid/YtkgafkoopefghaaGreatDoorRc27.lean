/- A part of this law; its conditions stand in the last text. -/
import Derived.Test.YtkgafkoopefghaaGreatDoorRc25
import Derived.Test.YtkgafkoopefghaaGreatDoorRc26
import Derived.Test.YtkgafkoopefghaaGreatDoorRc11
section
set_option linter.unusedVariables false
set_option linter.unusedSimpArgs false
namespace Go.Proofs.YtkgafkoopefghaaGreatDoor.PA
open Go.RowKit Go.Maps Go.WideMaps Go.Proofs.YtkgafkoopefghaaGreatDoor.Hk Go.Proofs.YtkgafkoopefghaaGreatDoorW.PrintWords
theorem byt_inj {s t : ByteArray} (h : s.data.toList = t.data.toList) : s = t := ByteArray.ext (Array.ext' h)
theorem byt_ne {s t : ByteArray} (h : s ≠ t) : s.data.toList ≠ t.data.toList := fun e => h (byt_inj e)
theorem byt_iff {s t : ByteArray} : s.toList = t.data.toList ↔ s = t := by
  rw [toList_eq]
  exact ⟨byt_inj, fun h => by rw [h]⟩
def toB (l : List UInt8) : ByteArray := ⟨l.toArray⟩
theorem toB_data (s : ByteArray) : toB s.data.toList = s := by unfold toB; cases s; simp
theorem namesS_are {rs : List (ByteArray × RuleD)} {L : List (List UInt8)} (hp : (ensB.data.toList :: rs.map (·.1.data.toList)).Perm L) (hs : L.Pairwise (fun x y => leB x y = true)) : namesS rs = L := by
  unfold namesS
  refine List.Perm.eq_of_pairwise ?_ (List.pairwise_mergeSort ?_ ?_ _) hs ((List.mergeSort_perm _ _).trans hp)
  · intro a b _ _ h1 h2
    exact List.le_antisymm (of_decide_eq_true h1) (of_decide_eq_true h2)
  · intro a b c h1 h2
    exact decide_eq_true (List.le_trans (of_decide_eq_true h1) (of_decide_eq_true h2))
  · intro a b
    rcases List.le_total a b with h | h
    · simp [leB, h]
    · simp [leB, h]
theorem names_are {rs : List (ByteArray × RuleD)} {L : List (List UInt8)} (hp : (ensB.data.toList :: rs.map (·.1.data.toList)).Perm L) (hs : L.Pairwise (fun x y => leB x y = true)) : namesB rs = L.map toB := by
  unfold namesB
  rw [namesS_are hp hs]
  rfl
theorem rd31 {l : List S31} {i : Nat} (hi : i < l.length) : rd_T31 l (i : Int) = l[i] := by unfold rd_T31; rw [Int.toNat_natCast, List.getD_eq_getElem?_getD, List.getElem?_eq_getElem hi]; rfl
theorem getS_cons (p : S31) (P : List S31) (s : ByteArray) : getS (p :: P) s = if p.f0.toList = s.toList then some p.f1 else getS P s := rfl
theorem getS_none {s : ByteArray} : ∀ {P : List S31}, s ∉ P.map (·.f0) → getS P s = none
  | [], _ => rfl
  | p :: P, h => by
    rw [List.map_cons, List.mem_cons, not_or] at h
    unfold getS
    rw [if_neg (fun e => h.1 (by rw [toList_eq, toList_eq] at e; exact (byt_inj e).symm))]
    exact getS_none h.2
theorem told_get (s : ByteArray) : ∀ (P : List S31) (o : Option ByteArray), (P.map (·.f0)).Nodup → P.foldl (fun o p => if s = p.f0 then some p.f1 else o) o = (match getS P s with | some v => some v | none => o)
  | [], o, _ => rfl
  | p :: P, o, h => by
    rw [List.map_cons, List.nodup_cons] at h
    rw [List.foldl_cons, told_get s P _ h.2, getS_cons]
    by_cases c : s = p.f0
    · subst c
      rw [if_pos rfl, if_pos rfl, getS_none h.1]
    · rw [if_neg c, if_neg (fun e => c (by rw [toList_eq, toList_eq] at e; exact (byt_inj e).symm))]
theorem told_none (s : ByteArray) (hs : s ≠ ensB) (ens : ByteArray) (P : List S31) : (toldAt ens P s).isNone = (getS P s).isNone := by
  have h : ∀ (P : List S31) (o : Option ByteArray), (P.foldl (fun o p => if s = p.f0 then some p.f1 else o) o).isNone = (o.isNone && (getS P s).isNone) := by
    intro P
    induction P with
    | nil => intro o; simp [getS]
    | cons p P ih =>
      intro o
      rw [List.foldl_cons, ih, getS_cons]
      by_cases c : s = p.f0
      · subst c
        rw [if_pos rfl, if_pos rfl]; simp
      · rw [if_neg c, if_neg (fun e => c (by rw [toList_eq, toList_eq] at e; exact (byt_inj e).symm))]
  unfold toldAt
  rw [h, if_neg hs]
  rfl
theorem okP_lt {rs : List (ByteArray × RuleD)} {P : List S31} (h : okP rs P = true) {i : Nat} (h0 : 0 < i) (hi : i < P.length) : P[i - 1].f0.data.toList < P[i].f0.data.toList := by
  have h1 := List.all_eq_true.1 h i (List.mem_range.2 hi)
  unfold stepOk at h1
  rw [rd31 hi, rd31 (by omega), decide_eq_false (by omega), Bool.false_or, Bool.and_eq_true] at h1
  have h2 := h1.2
  unfold leS at h2
  rw [less_or_eq, Bool.not_not, bytesLess_eq, toList_eq, toList_eq] at h2
  exact of_decide_eq_true h2
theorem okP_rise {rs : List (ByteArray × RuleD)} {P : List S31} (h : okP rs P = true) : ∀ (d i : Nat) (hi : i + d + 1 < P.length), P[i].f0.data.toList < P[i + d + 1].f0.data.toList
  | 0, i, hi => okP_lt h (i := i + 1) (by omega) hi
  | d + 1, i, hi => List.lt_trans (okP_rise h d i (by omega)) (okP_lt h (i := i + (d + 1) + 1) (by omega) hi)
theorem okP_nodup {rs : List (ByteArray × RuleD)} {P : List S31} (h : okP rs P = true) : (P.map (·.f0)).Nodup := by
  unfold List.Nodup
  rw [List.pairwise_iff_getElem]
  intro i j hi hj hij e
  rw [List.length_map] at hi hj
  rw [List.getElem_map, List.getElem_map] at e
  obtain ⟨d, rfl⟩ : ∃ d, j = i + d + 1 := ⟨j - i - 1, by omega⟩
  have := okP_rise h d i hj
  rw [e] at this
  exact List.lt_irrefl _ this
def ensR (first : ByteArray) (P : List S31) : ByteArray := (getS P ensB).getD first
theorem fullS_ok {kind a : ByteArray} {P : List S31} (h : (fullS kind a P).2.2.2 = 0) : ∃ first specs rs, shapesD kind = some (first, specs) ∧ findK specs (ensR first P) = some rs ∧ okP rs P = true ∧ fullS kind a P = (kind, a, outS (ensR first P) P rs, 0) := by
  have hr : ∀ first, (getS P ensB).getD first = ensR first P := fun _ => rfl
  unfold fullS at h ⊢
  cases hs : shapesD kind with
  | none => rw [hs] at h; cases h
  | some q =>
    obtain ⟨first, specs⟩ := q
    rw [hs] at h
    simp only [hr] at h ⊢
    by_cases ht : titleS kind a = true
    · rw [if_pos ht] at h ⊢
      cases hf : findK specs (ensR first P) with
      | none => rw [hf] at h; cases h
      | some rs =>
        rw [hf] at h
        simp only [] at h ⊢
        by_cases c : okP rs P = true
        · rw [if_pos c] at h ⊢
          by_cases c2 : lacks (ensR first P) P rs = true
          · rw [if_pos c2] at h; cases h
          · rw [if_neg c2]
            exact ⟨first, specs, rs, rfl, hf, c, rfl⟩
        · rw [if_neg c] at h; cases h
    · rw [if_neg ht] at h; cases h
theorem fullS_no {kind a : ByteArray} {P : List S31} (h : (fullS kind a P).2.2.2 ≠ 0) : fullS kind a P = (⟨#[]⟩, ⟨#[]⟩, [], (fullS kind a P).2.2.2) := by
  have hr : ∀ first, (getS P ensB).getD first = ensR first P := fun _ => rfl
  unfold fullS at h ⊢
  cases hs : shapesD kind with
  | none => rfl
  | some q =>
    obtain ⟨first, specs⟩ := q
    rw [hs] at h
    simp only [hr] at h ⊢
    by_cases ht : titleS kind a = true
    · rw [if_pos ht] at h ⊢
      cases hf : findK specs (ensR first P) with
      | none => rfl
      | some rs =>
        rw [hf] at h
        simp only [] at h ⊢
        by_cases c : okP rs P = true
        · rw [if_pos c] at h ⊢
          by_cases c2 : lacks (ensR first P) P rs = true
          · rw [if_pos c2]
          · rw [if_neg c2] at h; exact (h rfl).elim
        · rw [if_neg c]
    · rw [if_neg ht]
theorem full_f (a b : ByteArray) (l : List S31) (h : a.size < 2147483648 ∧ b.size < 2147483648 ∧ l.length < 2147483648 ∧ fitP l = true) : resource_Full.f a b l = some (fullS a b l) := by
  unfold resource_Full.f
  rw [if_pos h]
end Go.Proofs.YtkgafkoopefghaaGreatDoor.PA
end
section
namespace Go.Proofs.YtkgafkoopefghaaGreatDoor.PA
open Go.RowKit Go.Proofs.YtkgafkoopefghaaGreatDoorW.PrintWords Go.Proofs.YtkgafkoopefghaaGreatDoorW.PrintLast Go.Proofs.YtkgafkoopefghaaGreatDoorW.PrintMore
open Go.Proofs.YtkgafkoopefghaaGreatDoor.Hk
attribute [local go_sem] max2_int min2_int max_two min_two max_three min_three max_four min_four
attribute [local go_sem high] eqA31
set_option linter.unusedVariables false
set_option linter.unusedSimpArgs false
theorem shown_file : fullS (⟨#[102, 105, 108, 101]⟩ : ByteArray) (⟨#[47, 97]⟩ : ByteArray) [] = (⟨#[102, 105, 108, 101]⟩, ⟨#[47, 97]⟩, [⟨⟨#[99, 111, 110, 116, 101, 110, 116]⟩, ⟨#[]⟩⟩, ⟨⟨#[101, 110, 115, 117, 114, 101]⟩, ⟨#[102, 105, 108, 101]⟩⟩, ⟨⟨#[109, 111, 100, 101]⟩, ⟨#[48, 54, 52, 52]⟩⟩], 0) := by
 have h : fullS (⟨#[102, 105, 108, 101]⟩ : ByteArray) (⟨#[47, 97]⟩ : ByteArray) [] = (⟨#[102, 105, 108, 101]⟩, ⟨#[47, 97]⟩, outS ⟨#[102, 105, 108, 101]⟩ [] fileD.head!.2, 0) := by kernel_rfl
 have hn : namesS fileD.head!.2 = [[99, 111, 110, 116, 101, 110, 116], [101, 110, 115, 117, 114, 101], [109, 111, 100, 101]] := namesS_are (by decide +kernel) (by decide +kernel)
 rw [h]
 unfold outS
 rw [hn]
 rfl
theorem shF0 : ((((rd_T31 ([⟨⟨#[99, 111, 110, 116, 101, 110, 116]⟩, ⟨#[]⟩⟩, ⟨⟨#[101, 110, 115, 117, 114, 101]⟩, ⟨#[102, 105, 108, 101]⟩⟩, ⟨⟨#[109, 111, 100, 101]⟩, ⟨#[48, 54, 52, 52]⟩⟩] : List S31) 2).f0).toList) == ([109, 111, 100, 101] : List UInt8) && ((((rd_T31 ([⟨⟨#[99, 111, 110, 116, 101, 110, 116]⟩, ⟨#[]⟩⟩, ⟨⟨#[101, 110, 115, 117, 114, 101]⟩, ⟨#[102, 105, 108, 101]⟩⟩, ⟨⟨#[109, 111, 100, 101]⟩, ⟨#[48, 54, 52, 52]⟩⟩] : List S31) 2).f1).toList) == ([48, 54, 52, 52] : List UInt8))) = true := by decide +kernel
theorem shF1 {a b : ByteArray} {l : List S31} {e : Int} (h : resource_Full.f (⟨#[102, 105, 108, 101]⟩ : ByteArray) (⟨#[47, 97]⟩ : ByteArray) [] = some (a, b, l, e)) : l = [⟨⟨#[99, 111, 110, 116, 101, 110, 116]⟩, ⟨#[]⟩⟩, ⟨⟨#[101, 110, 115, 117, 114, 101]⟩, ⟨#[102, 105, 108, 101]⟩⟩, ⟨⟨#[109, 111, 100, 101]⟩, ⟨#[48, 54, 52, 52]⟩⟩] ∧ e = 0 := by
 rw [full_f _ _ _ (by decide), shown_file] at h
 have h2 := Option.some.inj h
 simp only [Prod.mk.injEq] at h2
 exact ⟨h2.2.2.1.symm, h2.2.2.2.symm⟩
theorem shF2 {e : Int} (h : resource_Check.f (⟨#[102, 105, 108, 101]⟩ : ByteArray) (⟨#[47, 97]⟩ : ByteArray) [(⟨(⟨#[112, 117, 114, 103, 101]⟩ : ByteArray), (⟨#[116, 114, 117, 101]⟩ : ByteArray)⟩ : S31)] = some e) : e = 62 := by
 unfold resource_Check.f at h
 rw [full_f _ _ _ (by decide)] at h
 have h1 : (fullS (⟨#[102, 105, 108, 101]⟩ : ByteArray) (⟨#[47, 97]⟩ : ByteArray) [(⟨(⟨#[112, 117, 114, 103, 101]⟩ : ByteArray), (⟨#[116, 114, 117, 101]⟩ : ByteArray)⟩ : S31)]).2.2.2 = 62 := by kernel_rfl
 rw [Option.bind_some, h1] at h
 exact (Option.some.inj h).symm
theorem shF3 {e : Int} (h : resource_Check.f (⟨#[102, 105, 108, 101]⟩ : ByteArray) (⟨#[47, 116, 97, 98, 47, 120]⟩ : ByteArray) [] = some e) : e = 61 := by
 unfold resource_Check.f at h
 rw [full_f _ _ _ (by decide)] at h
 have h2 : (fullS (⟨#[102, 105, 108, 101]⟩ : ByteArray) (⟨#[47, 116, 97, 98, 47, 120]⟩ : ByteArray) []).2.2.2 = 61 := by kernel_rfl
 rw [Option.bind_some, h2] at h
 exact (Option.some.inj h).symm
def majordomolaw06_shown.f  : Option (Bool) := (resource_Full.f (⟨#[102, 105, 108, 101]⟩ : ByteArray) (⟨#[47, 97]⟩ : ByteArray) ([] : List (S31))).bind fun bt274 => ((resource_Check.f (⟨#[102, 105, 108, 101]⟩ : ByteArray) (⟨#[47, 97]⟩ : ByteArray) (([(⟨(⟨#[112, 117, 114, 103, 101]⟩ : ByteArray), (⟨#[116, 114, 117, 101]⟩ : ByteArray)⟩ : S31)] : List (S31)))).bind fun t284 => ((resource_Check.f (⟨#[102, 105, 108, 101]⟩ : ByteArray) (⟨#[47, 116, 97, 98, 47, 120]⟩ : ByteArray) ([] : List (S31))).bind fun t285 => ((resource_Check.f (⟨#[100, 105, 115, 107]⟩ : ByteArray) (⟨#[97]⟩ : ByteArray) ([] : List (S31))).bind fun t286 => (if bt274.2.2.2 = 0 then (if (bt274.2.2.1.length : Int) = 3 then (if 2 < (bt274.2.2.1.length : Int) then (if ((((rd_T31 bt274.2.2.1 2).f0).toList) == ([109, 111, 100, 101] : List UInt8) && ((((rd_T31 bt274.2.2.1 2).f1).toList) == ([48, 54, 52, 52] : List UInt8))) = true then (if t284 = 62 then (if t285 = 61 then (some (t286 == 60)) else (some false)) else (some false)) else (some false)) else (none)) else (some false)) else (some false)))))
set_option maxHeartbeats 8000000 in
set_option maxRecDepth 100000 in
theorem majordomolaw06_shown.calls  (r : Bool) (w : World) (h : majordomolaw06_shown.f  = some r) (hU : UtfOk w) :
 Calls Tryz.prog 10 #[] w fun e w' => e = .returned (.bool r) ∧ Below w.heap.size w w' := by
 have HU := As.mk hU
 clear hU
 have hu24 := Tryz.underlying24
 have hu31 := Tryz.underlying31
 have HB := As.mk (Below.refl w.heap.size w)
 have H : ((resource_Full.f (⟨#[102, 105, 108, 101]⟩ : ByteArray) (⟨#[47, 97]⟩ : ByteArray) ([] : List (S31))).bind fun bt274 => ((resource_Check.f (⟨#[102, 105, 108, 101]⟩ : ByteArray) (⟨#[47, 97]⟩ : ByteArray) (([(⟨(⟨#[112, 117, 114, 103, 101]⟩ : ByteArray), (⟨#[116, 114, 117, 101]⟩ : ByteArray)⟩ : S31)] : List (S31)))).bind fun t284 => ((resource_Check.f (⟨#[102, 105, 108, 101]⟩ : ByteArray) (⟨#[47, 116, 97, 98, 47, 120]⟩ : ByteArray) ([] : List (S31))).bind fun t285 => ((resource_Check.f (⟨#[100, 105, 115, 107]⟩ : ByteArray) (⟨#[97]⟩ : ByteArray) ([] : List (S31))).bind fun t286 => (if bt274.2.2.2 = 0 then (if (bt274.2.2.1.length : Int) = 3 then (if 2 < (bt274.2.2.1.length : Int) then (if ((((rd_T31 bt274.2.2.1 2).f0).toList) == ([109, 111, 100, 101] : List UInt8) && ((((rd_T31 bt274.2.2.1 2).f1).toList) == ([48, 54, 52, 52] : List UInt8))) = true then (if t284 = 62 then (if t285 = 61 then (some (t286 == 60)) else (some false)) else (some false)) else (some false)) else (none)) else (some false)) else (some false)))))) = some r := h
 clear h
 replace H := Option.bind_eq_some_iff.mp H
 obtain ⟨⟨t274, t275, t276, t279⟩, A10, H⟩ := H
 replace H : ((resource_Check.f (⟨#[102, 105, 108, 101]⟩ : ByteArray) (⟨#[47, 97]⟩ : ByteArray) (([(⟨(⟨#[112, 117, 114, 103, 101]⟩ : ByteArray), (⟨#[116, 114, 117, 101]⟩ : ByteArray)⟩ : S31)] : List (S31)))).bind fun t284 => ((resource_Check.f (⟨#[102, 105, 108, 101]⟩ : ByteArray) (⟨#[47, 116, 97, 98, 47, 120]⟩ : ByteArray) ([] : List (S31))).bind fun t285 => ((resource_Check.f (⟨#[100, 105, 115, 107]⟩ : ByteArray) (⟨#[97]⟩ : ByteArray) ([] : List (S31))).bind fun t286 => (if t279 = 0 then (if (t276.length : Int) = 3 then (if 2 < (t276.length : Int) then (if ((((rd_T31 t276 2).f0).toList) == ([109, 111, 100, 101] : List UInt8) && ((((rd_T31 t276 2).f1).toList) == ([48, 54, 52, 52] : List UInt8))) = true then (if t284 = 62 then (if t285 = 61 then (some (t286 == 60)) else (some false)) else (some false)) else (some false)) else (none)) else (some false)) else (some false))))) = some r := H
 have A1 := As.mk A10
 clear A10
 obtain ⟨y281, hy281⟩ : ∃ y_ : List (S31), y_ = (([(⟨(⟨#[112, 117, 114, 103, 101]⟩ : ByteArray), (⟨#[116, 114, 117, 101]⟩ : ByteArray)⟩ : S31)] : List (S31))) := ⟨_, rfl⟩
 replace H : ((resource_Check.f (⟨#[102, 105, 108, 101]⟩ : ByteArray) (⟨#[47, 97]⟩ : ByteArray) y281).bind fun t284 => ((resource_Check.f (⟨#[102, 105, 108, 101]⟩ : ByteArray) (⟨#[47, 116, 97, 98, 47, 120]⟩ : ByteArray) ([] : List (S31))).bind fun t285 => ((resource_Check.f (⟨#[100, 105, 115, 107]⟩ : ByteArray) (⟨#[97]⟩ : ByteArray) ([] : List (S31))).bind fun t286 => (if t279 = 0 then (if (t276.length : Int) = 3 then (if 2 < (t276.length : Int) then (if ((((rd_T31 t276 2).f0).toList) == ([109, 111, 100, 101] : List UInt8) && ((((rd_T31 t276 2).f1).toList) == ([48, 54, 52, 52] : List UInt8))) = true then (if t284 = 62 then (if t285 = 61 then (some (t286 == 60)) else (some false)) else (some false)) else (some false)) else (none)) else (some false)) else (some false))))) = some r := by first | (rw [hy281]; with_reducible exact H) | (have H2_ := (Option.bind_some _ _).symm.trans H; rw [hy281]; with_reducible exact H2_) | (have H2_ := (Option.bind_some _ _).symm.trans H; with_reducible exact H2_) | with_reducible exact H | (rw [hy281]; exact H) | exact H
 have Ny281 := As.mk hy281
 clear hy281
 replace H := Option.bind_eq_some_iff.mp H
 obtain ⟨t284, A20, H⟩ := H
 replace H : ((resource_Check.f (⟨#[102, 105, 108, 101]⟩ : ByteArray) (⟨#[47, 116, 97, 98, 47, 120]⟩ : ByteArray) ([] : List (S31))).bind fun t285 => ((resource_Check.f (⟨#[100, 105, 115, 107]⟩ : ByteArray) (⟨#[97]⟩ : ByteArray) ([] : List (S31))).bind fun t286 => (if t279 = 0 then (if (t276.length : Int) = 3 then (if 2 < (t276.length : Int) then (if ((((rd_T31 t276 2).f0).toList) == ([109, 111, 100, 101] : List UInt8) && ((((rd_T31 t276 2).f1).toList) == ([48, 54, 52, 52] : List UInt8))) = true then (if t284 = 62 then (if t285 = 61 then (some (t286 == 60)) else (some false)) else (some false)) else (some false)) else (none)) else (some false)) else (some false)))) = some r := H
 have A2 := As.mk A20
 clear A20
 replace H := Option.bind_eq_some_iff.mp H
 obtain ⟨t285, A30, H⟩ := H
 replace H : ((resource_Check.f (⟨#[100, 105, 115, 107]⟩ : ByteArray) (⟨#[97]⟩ : ByteArray) ([] : List (S31))).bind fun t286 => (if t279 = 0 then (if (t276.length : Int) = 3 then (if 2 < (t276.length : Int) then (if ((((rd_T31 t276 2).f0).toList) == ([109, 111, 100, 101] : List UInt8) && ((((rd_T31 t276 2).f1).toList) == ([48, 54, 52, 52] : List UInt8))) = true then (if t284 = 62 then (if t285 = 61 then (some (t286 == 60)) else (some false)) else (some false)) else (some false)) else (none)) else (some false)) else (some false))) = some r := H
 have A3 := As.mk A30
 clear A30
 replace H := Option.bind_eq_some_iff.mp H
 obtain ⟨t286, A40, H⟩ := H
 replace H : (if t279 = 0 then (if (t276.length : Int) = 3 then (if 2 < (t276.length : Int) then (if ((((rd_T31 t276 2).f0).toList) == ([109, 111, 100, 101] : List UInt8) && ((((rd_T31 t276 2).f1).toList) == ([48, 54, 52, 52] : List UInt8))) = true then (if t284 = 62 then (if t285 = 61 then (some (t286 == 60)) else (some false)) else (some false)) else (some false)) else (none)) else (some false)) else (some false)) = some r := H
 have A4 := As.mk A40
 clear A40
 have c5 : t279 = 0 := (shF1 A1.out).2
 rw [if_pos c5] at H
 have c5b0 : (t279 == 0) = true := beq_iff_eq.mpr c5
 have c5b1 : (t279 != 0) = false := bne_eq_false_iff_eq.mpr c5
 clear c5
 have c6 : (t276.length : Int) = 3 := by rw [(shF1 A1.out).1]; rfl
 rw [if_pos c6] at H
 have c6b0 : ((t276.length : Int) == 3) = true := beq_iff_eq.mpr c6
 have c6b1 : ((t276.length : Int) != 3) = false := bne_eq_false_iff_eq.mpr c6
 clear c6
 have c7 : 2 < (t276.length : Int) := by rw [(shF1 A1.out).1]; decide
 rw [if_pos c7] at H
 have c7b0 : decide (2 < (t276.length : Int)) = true := decide_eq_true c7
 have c7b1 : decide (2 < t276.length) = true := decide_eq_true (by omega)
 clear c7
 have c8 : ((((rd_T31 t276 2).f0).toList) == ([109, 111, 100, 101] : List UInt8) && ((((rd_T31 t276 2).f1).toList) == ([48, 54, 52, 52] : List UInt8))) = true := by rw [(shF1 A1.out).1]; exact shF0
 rw [if_pos c8] at H
 have c8b0 : ((((rd_T31 t276 2).f0).toList) == ([109, 111, 100, 101] : List UInt8) && ((((rd_T31 t276 2).f1).toList) == ([48, 54, 52, 52] : List UInt8))) = true := c8
 (try (have c8b1 : decide ((((rd_T31 t276 2).f0).toList) = ([109, 111, 100, 101] : List UInt8) && ((((rd_T31 t276 2).f1).toList) == ([48, 54, 52, 52] : List UInt8))) = true := by simpa using c8))
 (try (have c8b2 : ((((rd_T31 t276 2).f0).toList) == ([109, 111, 100, 101] : List UInt8) && ((((rd_T31 t276 2).f1).toList) == ([48, 54, 52, 52] : List UInt8))) = true := by simpa using c8))
 clear c8
 have c9 : t284 = 62 := shF2 (by have h := A2.out; (try rw [Ny281.out] at h); exact h)
 rw [if_pos c9] at H
 have c9b0 : (t284 == 62) = true := beq_iff_eq.mpr c9
 have c9b1 : (t284 != 62) = false := bne_eq_false_iff_eq.mpr c9
 clear c9
 have c10 : t285 = 61 := shF3 A3.out
 rw [if_pos c10] at H
 have c10b0 : (t285 == 61) = true := beq_iff_eq.mpr c10
 have c10b1 : (t285 != 61) = false := bne_eq_false_iff_eq.mpr c10
 clear c10
 obtain rfl := Option.some.inj H
 go_enter Tryz.func10, Tryz.ntmps10
 go_wp2_with (first | ((with_reducible refine gate_callee (f := 11) rfl ?_); refine goesL_ (some 8) rfl rfl Tryz.func11 (by kernel_rfl) rfl #[.agg #[.string (⟨#[102, 105, 108, 101]⟩ : ByteArray), .string (⟨#[47, 97]⟩ : ByteArray), .slice none 0 0]] rfl (by (try simp only [List.map_toArray, List.map_cons, List.map_nil]); first | done | rfl | (simp only [List.length_drop, List.length_take]; rfl)) ?_; (refine (resource_Full.calls (⟨#[102, 105, 108, 101]⟩ : ByteArray) (⟨#[47, 97]⟩ : ByteArray) _ _ ([] : List (S31)) t274 t275 t276 t279 _ ?side1 ?side2 A1.out (UtfOk.of_below HU.out (by repeat (first | (with_reducible first | exact HB.out | apply bA | apply bN | apply bD) | exact HB.out)))).mono ?_); (case side1 => exact Kd.C_nil _ _); (case side2 => exact Nat.le_refl _); rintro e w11 ⟨v277, rfl, ho0, hb⟩; refine ⟨_, rfl, ?_⟩; have n0_ := As.mk (Kd.R_lower ho0 (bZ (by repeat (first | (with_reducible first | exact HB.out | apply bA | apply bN | apply bD) | exact HB.out)))); have n1_ := As.mk (bT (by repeat (first | (with_reducible first | exact HB.out | apply bA | apply bN | apply bD) | exact HB.out)) hb); clear HB; have HO278 := n0_; have HB := n1_; clear n0_ n1_; (try clear hb); (try clear hb2); (try clear hk); (try clear hi); (try clear ho0)) | ((with_reducible refine gate_dst (N := 1) rfl ?_); (try (refine gate_guard (by rfl) ?_; dsimp only)); refine box_event ?hg (N := 1) ?hd (cs := #[.string (⟨#[]⟩ : ByteArray), .string (⟨#[]⟩ : ByteArray), .slice none 0 0]) (t := 24) ?hr ?_; (case hd => rfl); (case hg => rfl); (case hr => first | (go_simp; done) | (go_simp; rfl)); intro gb280 hg w12 hbox hb; have n0_ := As.mk (Kd.R_below (by (with_reducible repeat (first | apply Kd.R_alloc | apply Kd.R_drewN | apply Kd.R_drew)); exact HO278.out) hb); have n1_ := As.mk (bT (by repeat (first | (with_reducible first | exact HB.out | apply bA | apply bN | apply bD) | exact HB.out)) hb); have n2_ := As.mk (hbox); have n3_ := As.mk ((by rw [hg]; exact (bZ (by repeat (first | (with_reducible first | exact HB.out | apply bA | apply bN | apply bD) | exact HB.out))) : w.heap.size ≤ gb280)); have n4_ := As.mk ((by rw [hg]; exact (bZ (by repeat (first | (with_reducible first | exact HB.out | apply bA | apply bN | apply bD) | exact HB.out))) : w.heap.size ≤ gb280)); clear HO278; clear HB; have HO278 := n0_; have HB := n1_; have BK280 := n2_; have GW280 := n3_; have GE280 := n4_; clear n0_ n1_ n2_ n3_ n4_; clear hb hbox hg; have hcz13_0 : w12.cell? ⟨gb280, 0, none⟩ = some (.string (⟨#[]⟩ : ByteArray)) := (kC BK280.out 0).trans rfl; have hcz13_1 : w12.cell? ⟨gb280, 1, none⟩ = some (.string (⟨#[]⟩ : ByteArray)) := (kC BK280.out 1).trans rfl; have hcz13_2 : w12.cell? ⟨gb280, 2, none⟩ = some (.slice none 0 0) := (kC BK280.out 2).trans rfl; have hfz13_0 := kF BK280.out 0; have hfz13_1 := kF BK280.out 1; have hfz13_2 := kF BK280.out 2; obtain ⟨Ao14, co14, eo14⟩ := Kd.R_slice HO278.out; subst eo14) | ((with_reducible refine gate_dst (N := 12) rfl ?_); (try (refine gate_guard (by rfl) ?_; dsimp only)); refine Kd.R_lit k31 _ 31 ?hg (N := 12) ?hd (xs := ([(⟨(⟨#[112, 117, 114, 103, 101]⟩ : ByteArray), (⟨#[116, 114, 117, 101]⟩ : ByteArray)⟩ : S31)] : List (S31))) (inner := [.string (⟨#[112, 117, 114, 103, 101]⟩ : ByteArray), .string (⟨#[116, 114, 117, 101]⟩ : ByteArray)]) (ok := fun _ => True) (okp := fun _ => True) ?hr ?hp (fun _ hk => hk) trivial (Below.refl _ _) (Nat.le_refl _) (by simp) ?_; (case hd => rfl); (case hg => rfl); (case hr => first | (go_simp; done) | (go_simp; rfl)); (case hp => exact (Reps.c2 (show Kd.M k31 _ _ _ (⟨(⟨#[112, 117, 114, 103, 101]⟩ : ByteArray), (⟨#[116, 114, 117, 101]⟩ : ByteArray)⟩ : S31) [.string (⟨#[112, 117, 114, 103, 101]⟩ : ByteArray), .string (⟨#[116, 114, 117, 101]⟩ : ByteArray)] from (k31_mkM _ _ _ (⟨(⟨#[112, 117, 114, 103, 101]⟩ : ByteArray), (⟨#[116, 114, 117, 101]⟩ : ByteArray)⟩ : S31) )) (Reps.none _ _))); intro v282 w15 ho16 hb hg_ hnew_; clear hg_ hnew_; (first | rw [← Ny281.out] at ho16 | (simp only [Int.reduceToNat] at ho16; rw [← Ny281.out] at ho16)); have n0_ := As.mk (Kd.R_elder' (by (with_reducible repeat (first | apply Kd.R_alloc | apply Kd.R_drewN | apply Kd.R_drew)); exact (Kd.R_mono (Kd.R_far (p := ⟨gb280, 2, none⟩) (Kd.R_far (p := ⟨gb280, 1, none⟩) (Kd.R_far (p := ⟨gb280, 0, none⟩) (Kd.R_types HO278.out BK280.out (by decide)) (fun _ hk => hk.2) (.string t274)) (fun _ hk => hk.2) (.string t275)) (fun _ hk => hk.2) (.slice Ao14 t276.length co14)) (fun _ h_ => h_.1))) (Kd.R_base ho16) hb); have n1_ := As.mk (Kd.R_lower (Kd.R_new' ho16 (Kd.R_lt (by (with_reducible repeat (first | apply Kd.R_alloc | apply Kd.R_drewN | apply Kd.R_drew)); exact (Kd.R_mono (Kd.R_far (p := ⟨gb280, 2, none⟩) (Kd.R_far (p := ⟨gb280, 1, none⟩) (Kd.R_far (p := ⟨gb280, 0, none⟩) (Kd.R_types HO278.out BK280.out (by decide)) (fun _ hk => hk.2) (.string t274)) (fun _ hk => hk.2) (.string t275)) (fun _ hk => hk.2) (.slice Ao14 t276.length co14)) (fun _ h_ => h_.1))))) (bZ (by repeat (first | (with_reducible first | exact HB.out | apply bA | apply bN | apply bD | refine bS ?_ GE280.out) | exact HB.out)))); have n2_ := As.mk (kB (g := gb280) (o := .cells #[.string t274, .string t275, .slice Ao14 t276.length co14] 24 (0, 0)) (by (with_reducible repeat (first | refine kN ?_ _ | refine kD ?_ | refine kA ?_ _)); refine kP (cs := #[.string t274, .string t275, .slice none 0 0]) ?_ 2 _ rfl; (with_reducible repeat (first | refine kN ?_ _ | refine kD ?_ | refine kA ?_ _)); refine kP (cs := #[.string t274, .string (⟨#[]⟩ : ByteArray), .slice none 0 0]) ?_ 1 _ rfl; (with_reducible repeat (first | refine kN ?_ _ | refine kD ?_ | refine kA ?_ _)); refine kP (cs := #[.string (⟨#[]⟩ : ByteArray), .string (⟨#[]⟩ : ByteArray), .slice none 0 0]) ?_ 0 _ rfl; (with_reducible repeat (first | refine kN ?_ _ | refine kD ?_ | refine kA ?_ _)); exact BK280.out) hb); have n3_ := As.mk (bT (by repeat (first | (with_reducible first | exact HB.out | apply bA | apply bN | apply bD | refine bS ?_ GE280.out) | exact HB.out)) hb); clear HO278; clear BK280; clear HB; have HO278 := n0_; have HO283 := n1_; have BK280 := n2_; have HB := n3_; clear n0_ n1_ n2_ n3_; clear hb ho16; obtain ⟨Ao17, co17, eo17⟩ := Kd.R_slice HO283.out; subst eo17) | ((with_reducible refine gate_callee (f := 14) rfl ?_); refine goesL_ (some 14) rfl rfl Tryz.func14 (by kernel_rfl) rfl #[.agg #[.string (⟨#[102, 105, 108, 101]⟩ : ByteArray), .string (⟨#[47, 97]⟩ : ByteArray), .slice Ao17 y281.length co17]] rfl (by (try simp only [List.map_toArray, List.map_cons, List.map_nil]); first | done | rfl | (simp only [List.length_drop, List.length_take]; rfl)) ?_; (with_reducible refine (resource_Check.calls (⟨#[102, 105, 108, 101]⟩ : ByteArray) (⟨#[47, 97]⟩ : ByteArray) _ _ y281 t284 _ ?side1 ?side2 A2.out (UtfOk.of_below HU.out (by repeat (first | (with_reducible first | exact HB.out | apply bA | apply bN | apply bD | refine bS ?_ GE280.out) | exact HB.out)))).mono ?_); (case side1 => repeat (first | exact (Kd.R_reads' HO283.out).2.2 | (with_reducible refine Kd.C_alloc ?_ _) | (with_reducible refine Kd.C_drewN ?_ _) | (with_reducible refine Kd.C_drew ?_))); (case side2 => exact (Kd.R_reads' HO283.out).2.1); rintro e w18 ⟨rfl, hb⟩; refine ⟨_, rfl, ?_⟩; have n0_ := As.mk (Kd.R_below (by (with_reducible repeat (first | apply Kd.R_alloc | apply Kd.R_drewN | apply Kd.R_drew)); exact HO278.out) hb); have n1_ := As.mk (Kd.R_below (by (with_reducible repeat (first | apply Kd.R_alloc | apply Kd.R_drewN | apply Kd.R_drew)); exact HO283.out) hb); have n2_ := As.mk (kB (g := gb280) (o := .cells #[.string t274, .string t275, .slice Ao14 t276.length co14] 24 (0, 0)) (by (with_reducible repeat (first | refine kN ?_ _ | refine kD ?_ | refine kA ?_ _)); exact BK280.out) hb); have n3_ := As.mk (bT (by repeat (first | (with_reducible first | exact HB.out | apply bA | apply bN | apply bD | refine bS ?_ GE280.out) | exact HB.out)) hb); clear HO278; clear HO283; clear BK280; clear HB; have HO278 := n0_; have HO283 := n1_; have BK280 := n2_; have HB := n3_; clear n0_ n1_ n2_ n3_; (try clear hb); (try clear hb2); (try clear hk); (try clear hi)) | ((with_reducible refine gate_callee (f := 14) rfl ?_); refine goesL_ (some 16) rfl rfl Tryz.func14 (by kernel_rfl) rfl #[.agg #[.string (⟨#[102, 105, 108, 101]⟩ : ByteArray), .string (⟨#[47, 116, 97, 98, 47, 120]⟩ : ByteArray), .slice none 0 0]] rfl (by (try simp only [List.map_toArray, List.map_cons, List.map_nil]); first | done | rfl | (simp only [List.length_drop, List.length_take]; rfl)) ?_; (refine (resource_Check.calls (⟨#[102, 105, 108, 101]⟩ : ByteArray) (⟨#[47, 116, 97, 98, 47, 120]⟩ : ByteArray) _ _ ([] : List (S31)) t285 _ ?side1 ?side2 A3.out (UtfOk.of_below HU.out (by repeat (first | (with_reducible first | exact HB.out | apply bA | apply bN | apply bD | refine bS ?_ GE280.out) | exact HB.out)))).mono ?_); (case side1 => exact Kd.C_nil _ _); (case side2 => exact Nat.le_refl _); rintro e w19 ⟨rfl, hb⟩; refine ⟨_, rfl, ?_⟩; have n0_ := As.mk (Kd.R_below (by (with_reducible repeat (first | apply Kd.R_alloc | apply Kd.R_drewN | apply Kd.R_drew)); exact HO278.out) hb); have n1_ := As.mk (Kd.R_below (by (with_reducible repeat (first | apply Kd.R_alloc | apply Kd.R_drewN | apply Kd.R_drew)); exact HO283.out) hb); have n2_ := As.mk (kB (g := gb280) (o := .cells #[.string t274, .string t275, .slice Ao14 t276.length co14] 24 (0, 0)) (by (with_reducible repeat (first | refine kN ?_ _ | refine kD ?_ | refine kA ?_ _)); exact BK280.out) hb); have n3_ := As.mk (bT (by repeat (first | (with_reducible first | exact HB.out | apply bA | apply bN | apply bD | refine bS ?_ GE280.out) | exact HB.out)) hb); clear HO278; clear HO283; clear BK280; clear HB; have HO278 := n0_; have HO283 := n1_; have BK280 := n2_; have HB := n3_; clear n0_ n1_ n2_ n3_; (try clear hb); (try clear hb2); (try clear hk); (try clear hi)) | ((with_reducible refine gate_callee (f := 14) rfl ?_); refine goesL_ (some 18) rfl rfl Tryz.func14 (by kernel_rfl) rfl #[.agg #[.string (⟨#[100, 105, 115, 107]⟩ : ByteArray), .string (⟨#[97]⟩ : ByteArray), .slice none 0 0]] rfl (by (try simp only [List.map_toArray, List.map_cons, List.map_nil]); first | done | rfl | (simp only [List.length_drop, List.length_take]; rfl)) ?_; (refine (resource_Check.calls (⟨#[100, 105, 115, 107]⟩ : ByteArray) (⟨#[97]⟩ : ByteArray) _ _ ([] : List (S31)) t286 _ ?side1 ?side2 A4.out (UtfOk.of_below HU.out (by repeat (first | (with_reducible first | exact HB.out | apply bA | apply bN | apply bD | refine bS ?_ GE280.out) | exact HB.out)))).mono ?_); (case side1 => exact Kd.C_nil _ _); (case side2 => exact Nat.le_refl _); rintro e w20 ⟨rfl, hb⟩; refine ⟨_, rfl, ?_⟩; have n0_ := As.mk (Kd.R_below (by (with_reducible repeat (first | apply Kd.R_alloc | apply Kd.R_drewN | apply Kd.R_drew)); exact HO278.out) hb); have n1_ := As.mk (Kd.R_below (by (with_reducible repeat (first | apply Kd.R_alloc | apply Kd.R_drewN | apply Kd.R_drew)); exact HO283.out) hb); have n2_ := As.mk (kB (g := gb280) (o := .cells #[.string t274, .string t275, .slice Ao14 t276.length co14] 24 (0, 0)) (by (with_reducible repeat (first | refine kN ?_ _ | refine kD ?_ | refine kA ?_ _)); exact BK280.out) hb); have n3_ := As.mk (bT (by repeat (first | (with_reducible first | exact HB.out | apply bA | apply bN | apply bD | refine bS ?_ GE280.out) | exact HB.out)) hb); clear HO278; clear HO283; clear BK280; clear HB; have HO278 := n0_; have HO283 := n1_; have BK280 := n2_; have HB := n3_; clear n0_ n1_ n2_ n3_; (try clear hb); (try clear hb2); (try clear hk); (try clear hi); have hcz21_0 : w20.cell? ⟨gb280, 0, none⟩ = some (.string t274) := (kC BK280.out 0).trans rfl; have hcz21_1 : w20.cell? ⟨gb280, 1, none⟩ = some (.string t275) := (kC BK280.out 1).trans rfl; have hcz21_2 : w20.cell? ⟨gb280, 2, none⟩ = some (.slice Ao14 t276.length co14) := (kC BK280.out 2).trans rfl; have hfz21_0 := kF BK280.out 0; have hfz21_1 := kF BK280.out 1; have hfz21_2 := kF BK280.out 2; have p287 : 0 ≤ (2 : Int) := (by omega); have q287 : 2 < (t276.length : Int) := of_decide_eq_true (by first | (with_reducible assumption) | assumption); obtain ⟨ad287, e287, hx287_0, hx287_1⟩ := at_T31 (Kd.R_reads' HO278.out).2.2 2 p287 q287; cases e287; (try simp only [show (2 : Int).toNat = 2 from rfl, Nat.reduceMul, Nat.reduceEqDiff, Go.Addr.add, ↓reduceIte] at hx287_0); (try simp only [show (2 : Int).toNat = 2 from rfl, Nat.reduceMul, Nat.reduceEqDiff, Go.Addr.add, ↓reduceIte] at hx287_1); have qi287 : (2 < t276.length) = True := eq_true (by omega); (try rw [show ((2 : Int)).toNat = 2 from rfl] at hx287_0); (try rw [show 2 * 2 = 4 from rfl] at hx287_0); (try rw [show ((2 : Int)).toNat = 2 from rfl] at hx287_1); (try rw [show 2 * 2 = 4 from rfl] at hx287_1); replace p287 := eq_true p287; replace q287 := eq_true q287))
 go_ret
 exact ⟨by first | rfl | (simp [errW_none, errW_some] <;> rfl) | (simp [*, errW_none, errW_some] <;> rfl), by repeat (first | (with_reducible first | exact HB.out | apply bA | apply bN | apply bD | refine bS ?_ GE280.out) | exact HB.out)⟩
end Go.Proofs.YtkgafkoopefghaaGreatDoor.PA
end
section
set_option linter.unusedVariables false
set_option linter.unusedSimpArgs false
namespace Go.Proofs.YtkgafkoopefghaaGreatDoor.PA
open Go.RowKit Go.Maps Go.WideMaps Go.Proofs.YtkgafkoopefghaaGreatDoor.Hk Go.Proofs.YtkgafkoopefghaaGreatDoorW.PrintWords
theorem shown_true : majordomolaw06_shown.f = some true := by
 unfold majordomolaw06_shown.f resource_Check.f
 rw [full_f _ _ _ (by decide), full_f _ _ _ (by decide), full_f _ _ _ (by decide), full_f _ _ _ (by decide), shown_file]
 have h1 : (fullS (⟨#[102, 105, 108, 101]⟩ : ByteArray) (⟨#[47, 97]⟩ : ByteArray) [(⟨(⟨#[112, 117, 114, 103, 101]⟩ : ByteArray), (⟨#[116, 114, 117, 101]⟩ : ByteArray)⟩ : S31)]).2.2.2 = 62 := by kernel_rfl
 have h2 : (fullS (⟨#[102, 105, 108, 101]⟩ : ByteArray) (⟨#[47, 116, 97, 98, 47, 120]⟩ : ByteArray) []).2.2.2 = 61 := by kernel_rfl
 have h3 : (fullS (⟨#[100, 105, 115, 107]⟩ : ByteArray) (⟨#[97]⟩ : ByteArray) []).2.2.2 = 60 := by kernel_rfl
 simp only [Option.bind_some]
 rw [h1, h2, h3]
 decide +kernel
end Go.Proofs.YtkgafkoopefghaaGreatDoor.PA
end
