/- A part of this law; its conditions stand in the last text. -/
import Derived.Test.YtkgafkoopefghaaGreatDoorRc19
import Derived.Test.YtkgafkoopefghaaGreatDoorRc20
import Derived.Maps.Ext
import Derived.Sort.KeysCollected
import Derived.Test.YtkgafkoopefghaaGreatDoorRc11
import Derived.Test.YtkgafkoopefghaaGreatDoorRc15
section
set_option linter.unusedVariables false
set_option linter.unusedSimpArgs false
namespace Go.Proofs.YtkgafkoopefghaaGreatDoor.PA
open Go.RowKit Go.Maps Go.WideMaps Go.Proofs.YtkgafkoopefghaaGreatDoor.Hk Go.Proofs.YtkgafkoopefghaaGreatDoorW.PrintWords
def findK {α : Type} : List (ByteArray × α) → ByteArray → Option α
  | [], _ => none
  | p :: l, s => if s = p.1 then some p.2 else findK l s
theorem findK_all {α β : Type} {R : α → β → Prop} (s : ByteArray) : ∀ {l : List (ByteArray × α)} {m : List (ByteArray × β)}, KeyAll R l m → (findK l s = none ∧ findK m s = none) ∨ ∃ x y, findK l s = some x ∧ findK m s = some y ∧ R x y
  | [], [], _ => .inl ⟨rfl, rfl⟩
  | a :: l, b :: m, k => by
    have ih := findK_all s k.2
    unfold findK
    rw [← k.1.1]
    by_cases e : s = a.1
    · rw [if_pos e, if_pos e]; exact .inr ⟨_, _, rfl, rfl, k.1.2⟩
    · rw [if_neg e, if_neg e]; exact ih
  | [], _ :: _, k => k.elim
  | _ :: _, [], k => k.elim
def once {α : Type} : List (ByteArray × α) → Bool
  | [] => true
  | p :: l => (findK l p.1).isNone && once l
theorem once_all {α β : Type} {R : α → β → Prop} : ∀ {l : List (ByteArray × α)} {m : List (ByteArray × β)}, KeyAll R l m → once l = once m
  | [], [], _ => rfl
  | a :: l, b :: m, k => by
    have ih := once_all k.2
    have h := findK_all a.1 k.2
    unfold once
    rw [ih, ← k.1.1]
    rcases h with ⟨h1, h2⟩ | ⟨x, y, h1, h2, _⟩ <;> rw [h1, h2] <;> rfl
  | [], _ :: _, k => k.elim
  | _ :: _, [], k => k.elim
theorem putL_from (D : DataW Value) (hD : IsMap D) (s : ByteArray) (z : DataW Value) : ∀ l : List (ByteArray × Value), once l = true →
    ((l.foldl (fun D p => D.put (kS p.1) (.held p.2)) D).atKey (kS s) z = (match findK l s with | some v => .held v | none => D.atKey (kS s) z)) ∧ Maps.has (l.foldl (fun D p => D.put (kS p.1) (.held p.2)) D) (kS s) = ((findK l s).isSome || Maps.has D (kS s))
  | [], _ => ⟨rfl, rfl⟩
  | p :: l, ho => by
    unfold once at ho
    simp only [Bool.and_eq_true] at ho
    have ih := putL_from (D.put (kS p.1) (.held p.2)) (hD.put _ _) s z l ho.2
    unfold findK
    simp only [List.foldl_cons]
    rw [ih.1, ih.2, at_put D hD, has_put D hD]
    by_cases e : s = p.1
    · subst e
      rw [if_pos rfl, if_pos rfl, if_pos rfl]
      have : findK l p.1 = none := by simpa using ho.1
      rw [this]
      exact ⟨rfl, rfl⟩
    · rw [if_neg e, if_neg e, if_neg e]
      exact ⟨rfl, rfl⟩
theorem putL_at {l : List (ByteArray × Value)} (ho : once l = true) (s : ByteArray) (z : DataW Value) : (putL l).atKey (kS s) z = (match findK l s with | some v => .held v | none => z) := (putL_from (.map []) isMap_empty s z l ho).1
theorem putL_has {l : List (ByteArray × Value)} (ho : once l = true) (s : ByteArray) : Maps.has (putL l) (kS s) = (findK l s).isSome := by
  rw [show putL l = l.foldl (fun D p => D.put (kS p.1) (.held p.2)) (.map []) from rfl, (putL_from (.map []) isMap_empty s (.map []) l ho).2]
  exact Bool.or_false _
def getS : List S31 → ByteArray → Option ByteArray
  | [], _ => none
  | p :: r, n => if p.f0.toList = n.toList then some p.f1 else getS r n
def toldR : Option ByteArray → ByteArray × Bool
  | some v => (v, true)
  | none => (⟨#[]⟩, false)
theorem get_l0 (n : ByteArray) (l : List S31) (hl : l.length ≤ 9223372036854775806) : ∀ (k i : Nat), i ≤ l.length → l.length < k + i → resource_Get.l0 k n l l.length i = some (toldR (getS (l.drop i) n))
  | 0, i, hi, hk => by omega
  | k + 1, i, hi, hk => by
    unfold resource_Get.l0
    by_cases c : i < l.length
    · rw [if_pos (by omega), if_pos (by omega), if_pos (by omega), List.drop_eq_getElem_cons c]
      have e : rd_T31 l (i : Int) = l[i] := by unfold rd_T31; rw [Int.toNat_natCast, List.getD_eq_getElem?_getD, List.getElem?_eq_getElem c]; rfl
      unfold getS
      rw [e]
      by_cases d : l[i].f0.toList = n.toList
      · rw [if_pos d, if_pos d]; rfl
      · rw [if_neg d, if_neg d]
        have : wrap64 ((i : Int) + 1) = ((i + 1 : Nat) : Int) := by unfold wrap64; omega
        rw [this]
        exact get_l0 n l hl k (i + 1) (by omega) (by omega)
    · rw [if_neg (by omega)]
      have : l.drop i = [] := List.drop_eq_nil_of_le (by omega)
      rw [this]; rfl
theorem get_f (a b n : ByteArray) (l : List S31) (hl : l.length ≤ 9223372036854775806) : resource_Get.f (l.length + 1) a b l n = some (toldR (getS l n)) := get_l0 n l hl (l.length + 1) 0 (by omega) (by omega)
def titleS (kind s : ByteArray) : Bool :=
  if kind.toList = ([102, 105, 108, 101] : List UInt8) then (if (pathS s).2 = 0 then (if ((pathS s).1.length : Int) > 0 then (if (rdOf ByteArray.empty (pathS s).1 0).toList = ([116, 97, 98] : List UInt8) then false else (rdOf ByteArray.empty (pathS s).1 0).toList != ([114, 117, 110] : List UInt8)) else false) else false) else keyB s
theorem title_f (kind s : ByteArray) (hs : s.size < 2147483648) : resource_title.f kind s = some (titleS kind s) := by
  unfold resource_title.f titleS layout_Path.f
  rw [if_pos hs, key_f s hs]
  by_cases c : kind.toList = ([102, 105, 108, 101] : List UInt8)
  · rw [if_pos c, if_pos c, Option.bind_some]
    by_cases c1 : (pathS s).2 = 0
    · rw [if_pos c1, if_pos c1]
      by_cases c2 : ((pathS s).1.length : Int) > 0
      · rw [if_pos c2, if_pos c2, if_pos c2]
        by_cases c3 : (rdOf ByteArray.empty (pathS s).1 0).toList = ([116, 97, 98] : List UInt8)
        · rw [if_pos c3, if_pos c3]
        · rw [if_neg c3, if_neg c3]
      · rw [if_neg c2, if_neg c2]
    · rw [if_neg c1, if_neg c1]
  · rw [if_neg c, if_neg c]; rfl
def ensB : ByteArray := ⟨#[101, 110, 115, 117, 114, 101]⟩
def leS (a b : ByteArray) : Bool := Op.bytesLess a.toList b.toList || a.toList == b.toList
def toldV (v : ByteArray) : DataW Value := .held (.agg #[.string v])
def toldD (ens : ByteArray) (P : List S31) : DataW Value := P.foldl (fun D p => D.put (kS p.f0) (toldV p.f1)) ((DataW.map []).put (kS ensB) (toldV ens))
def toldAt (ens : ByteArray) (P : List S31) (s : ByteArray) : Option ByteArray := P.foldl (fun o p => if s = p.f0 then some p.f1 else o) (if s = ensB then some ens else none)
theorem told_from (D : DataW Value) (hD : IsMap D) (o : Option ByteArray) (s : ByteArray) (z : DataW Value) (h1 : D.atKey (kS s) z = (match o with | some v => toldV v | none => z)) (h2 : Maps.has D (kS s) = o.isSome) : ∀ P : List S31,
    ((P.foldl (fun D p => D.put (kS p.f0) (toldV p.f1)) D).atKey (kS s) z = (match P.foldl (fun o p => if s = p.f0 then some p.f1 else o) o with | some v => toldV v | none => z)) ∧ Maps.has (P.foldl (fun D p => D.put (kS p.f0) (toldV p.f1)) D) (kS s) = (P.foldl (fun o p => if s = p.f0 then some p.f1 else o) o).isSome := by
  intro P
  induction P generalizing D o with
  | nil => exact ⟨h1, h2⟩
  | cons p P ih =>
    simp only [List.foldl_cons]
    refine ih (D.put (kS p.f0) (toldV p.f1)) (hD.put _ _) (if s = p.f0 then some p.f1 else o) ?_ ?_
    · rw [at_put D hD]
      by_cases e : s = p.f0
      · rw [if_pos e, if_pos e]
      · rw [if_neg e, if_neg e]; exact h1
    · rw [has_put D hD]
      by_cases e : s = p.f0
      · rw [if_pos e, if_pos e]; rfl
      · rw [if_neg e, if_neg e]; exact h2
theorem toldD_at (ens : ByteArray) (P : List S31) (s : ByteArray) (z : DataW Value) : (toldD ens P).atKey (kS s) z = (match toldAt ens P s with | some v => toldV v | none => z) ∧ Maps.has (toldD ens P) (kS s) = (toldAt ens P s).isSome := by
  refine told_from _ (isMap_empty.put _ _) _ s z ?_ ?_ P
  · rw [at_put _ isMap_empty]
    by_cases e : s = ensB
    · rw [if_pos e, if_pos e]
    · rw [if_neg e, if_neg e]; rfl
  · rw [has_put _ isMap_empty]
    by_cases e : s = ensB
    · rw [if_pos e, if_pos e]; rfl
    · rw [if_neg e, if_neg e]; rfl
theorem toldD_snoc (ens : ByteArray) (P : List S31) (p : S31) : toldD ens (P ++ [p]) = (toldD ens P).put (kS p.f0) (toldV p.f1) := by simp [toldD]
theorem toldD_isMap (ens : ByteArray) (P : List S31) : IsMap (toldD ens P) := by
  unfold toldD
  have : ∀ (P : List S31) (D : DataW Value), IsMap D → IsMap (P.foldl (fun D p => D.put (kS p.f0) (toldV p.f1)) D) := by
    intro P
    induction P with
    | nil => intro D h; exact h
    | cons p P ih => intro D h; exact ih _ (h.put _ _)
  exact this P _ (isMap_empty.put _ _)
def knownS (rs : List (ByteArray × RuleD)) (p : S31) : Bool := p.f0.toList == ([101, 110, 115, 117, 114, 101] : List UInt8) || (match findK rs p.f0 with | some q => q.may p.f1 | none => false)
def stepOk (rs : List (ByteArray × RuleD)) (P : List S31) (i : Nat) : Bool := knownS rs (rd_T31 P i) && (decide (i = 0) || !leS (rd_T31 P i).f0 (rd_T31 P ((i - 1 : Nat) : Int)).f0)
def okP (rs : List (ByteArray × RuleD)) (P : List S31) : Bool := (List.range P.length).all (stepOk rs P)
def fullAt (ens : ByteArray) (P : List S31) (rs : List (ByteArray × RuleD)) (s : ByteArray) : Option ByteArray := match toldAt ens P s with | some v => some v | none => (findK rs s).map (·.dflt)
def namesS (rs : List (ByteArray × RuleD)) : List (List UInt8) := (ensB.data.toList :: rs.map (·.1.data.toList)).mergeSort leB
def outS (ens : ByteArray) (P : List S31) (rs : List (ByteArray × RuleD)) : List S31 := (namesS rs).map fun n => ⟨⟨n.toArray⟩, (fullAt ens P rs ⟨n.toArray⟩).getD ⟨#[]⟩⟩
def lacks (ens : ByteArray) (P : List S31) (rs : List (ByteArray × RuleD)) : Bool := rs.any fun x => x.2.must && (toldAt ens P x.1).isNone
def fullS (kind title : ByteArray) (P : List S31) : ByteArray × ByteArray × List S31 × Int :=
  match shapesD kind with
  | none => (⟨#[]⟩, ⟨#[]⟩, [], 60)
  | some (first, specs) =>
    if titleS kind title = true then
      (match findK specs ((getS P ensB).getD first) with
      | none => (⟨#[]⟩, ⟨#[]⟩, [], 62)
      | some rs => if okP rs P = true then (if lacks ((getS P ensB).getD first) P rs = true then (⟨#[]⟩, ⟨#[]⟩, [], 62) else (kind, title, outS ((getS P ensB).getD first) P rs, 0)) else (⟨#[]⟩, ⟨#[]⟩, [], 62))
    else (⟨#[]⟩, ⟨#[]⟩, [], 61)
def fitP (P : List S31) : Bool := P.all fun p => decide (p.f0.size < 2147483648) && decide (p.f1.size < 2147483648)
def resource_Full.f (a0_0 : ByteArray) (a0_1 : ByteArray) (l0_2 : List (S31)) : Option (ByteArray × ByteArray × (List (S31)) × Int) :=
  if a0_0.size < 2147483648 ∧ a0_1.size < 2147483648 ∧ l0_2.length < 2147483648 ∧ fitP l0_2 = true then some (fullS a0_0 a0_1 l0_2) else none
theorem shapes_calls (kind : ByteArray) (w : World) : Calls Tryz.prog 27 #[.string kind] w fun e w' => (shapesD kind = none ∧ e = .returned (.tuple #[.string ⟨#[]⟩, .map none]) ∧ Below w.heap.size w w') ∨ ∃ first specs b hi, shapesD kind = some (first, specs) ∧ e = .returned (.tuple #[.string first, .map (some b)]) ∧ St w w' b hi specs := by
  by_cases c0 : kind = ⟨#[102, 105, 108, 101]⟩
  · subst c0; exact (shapes_file w).mono fun e w' h => let ⟨b, hi, he, hs⟩ := h; .inr ⟨_, _, b, hi, rfl, he, hs⟩
  by_cases c1 : kind = ⟨#[97, 99, 99, 111, 117, 110, 116]⟩
  · subst c1; exact (shapes_account w).mono fun e w' h => let ⟨b, hi, he, hs⟩ := h; .inr ⟨_, _, b, hi, rfl, he, hs⟩
  by_cases c2 : kind = ⟨#[103, 114, 111, 117, 112]⟩
  · subst c2; exact (shapes_group w).mono fun e w' h => let ⟨b, hi, he, hs⟩ := h; .inr ⟨_, _, b, hi, rfl, he, hs⟩
  by_cases c3 : kind = ⟨#[112, 97, 99, 107, 97, 103, 101]⟩
  · subst c3; exact (shapes_package w).mono fun e w' h => let ⟨b, hi, he, hs⟩ := h; .inr ⟨_, _, b, hi, rfl, he, hs⟩
  by_cases c4 : kind = ⟨#[115, 101, 114, 118, 105, 99, 101]⟩
  · subst c4; exact (shapes_service w).mono fun e w' h => let ⟨b, hi, he, hs⟩ := h; .inr ⟨_, _, b, hi, rfl, he, hs⟩
  have hn : shapesD kind = none := by
    unfold shapesD
    rw [if_neg c0, if_neg c1, if_neg c2, if_neg c3, if_neg c4]
  exact (shapes_none kind w hn).mono fun e w' h => .inl ⟨hn, h.1, h.2⟩
end Go.Proofs.YtkgafkoopefghaaGreatDoor.PA
end
