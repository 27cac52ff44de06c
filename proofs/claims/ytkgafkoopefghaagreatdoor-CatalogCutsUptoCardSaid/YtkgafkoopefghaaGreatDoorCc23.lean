/- A part of this law; its conditions stand in the last text. -/
import Derived.Test.YtkgafkoopefghaaGreatDoorCc21
import Derived.Test.YtkgafkoopefghaaGreatDoorCc22
import Derived.Maps.Ext
import Derived.Sort.KeysCollected
import Derived.Test.YtkgafkoopefghaaGreatDoorCc15
import Derived.Test.YtkgafkoopefghaaGreatDoorCc17
import Derived.Test.YtkgafkoopefghaaGreatDoorCc9
section
set_option linter.unusedVariables false
set_option linter.unusedSimpArgs false
namespace Go.Proofs.YtkgafkoopefghaaGreatDoor.PA
open Go.RowKit Go.Maps Go.WideMaps Go.Proofs.YtkgafkoopefghaaGreatDoor.Hk Go.Proofs.YtkgafkoopefghaaGreatDoorW.PrintWords
def findK {α : Type} : List (ByteArray × α) → ByteArray → Option α
  | [], _ => none
  | p :: l, s => if s = p.1 then some p.2 else findK l s
theorem findK_all {α β : Type} {R : α → β → Prop} (s : ByteArray) : ∀ {l : List (ByteArray × α)} {m : List (ByteArray × β)}, KeyAll R l m → (findK l s = none ∧ findK m s = none) ∨ ∃ x y, findK l s = some x ∧ findK m s = some y ∧ R x y
  | [], [], _ => .inl ⟨rfl, rfl⟩
  | a :: l, b :: m, k => by
    have ih := findK_all s k.2
    unfold findK
    rw [← k.1.1]
    by_cases e : s = a.1
    · rw [if_pos e, if_pos e]; exact .inr ⟨_, _, rfl, rfl, k.1.2⟩
    · rw [if_neg e, if_neg e]; exact ih
  | [], _ :: _, k => k.elim
  | _ :: _, [], k => k.elim
def once {α : Type} : List (ByteArray × α) → Bool
  | [] => true
  | p :: l => (findK l p.1).isNone && once l
theorem once_all {α β : Type} {R : α → β → Prop} : ∀ {l : List (ByteArray × α)} {m : List (ByteArray × β)}, KeyAll R l m → once l = once m
  | [], [], _ => rfl
  | a :: l, b :: m, k => by
    have ih := once_all k.2
    have h := findK_all a.1 k.2
    unfold once
    rw [ih, ← k.1.1]
    rcases h with ⟨h1, h2⟩ | ⟨x, y, h1, h2, _⟩ <;> rw [h1, h2] <;> rfl
  | [], _ :: _, k => k.elim
  | _ :: _, [], k => k.elim
theorem putL_from (D : DataW Value) (hD : IsMap D) (s : ByteArray) (z : DataW Value) : ∀ l : List (ByteArray × Value), once l = true →
    ((l.foldl (fun D p => D.put (kS p.1) (.held p.2)) D).atKey (kS s) z = (match findK l s with | some v => .held v | none => D.atKey (kS s) z)) ∧ Maps.has (l.foldl (fun D p => D.put (kS p.1) (.held p.2)) D) (kS s) = ((findK l s).isSome || Maps.has D (kS s))
  | [], _ => ⟨rfl, rfl⟩
  | p :: l, ho => by
    unfold once at ho
    simp only [Bool.and_eq_true] at ho
    have ih := putL_from (D.put (kS p.1) (.held p.2)) (hD.put _ _) s z l ho.2
    unfold findK
    simp only [List.foldl_cons]
    rw [ih.1, ih.2, at_put D hD, has_put D hD]
    by_cases e : s = p.1
    · subst e
      rw [if_pos rfl, if_pos rfl, if_pos rfl]
      have : findK l p.1 = none := by simpa using ho.1
      rw [this]
      exact ⟨rfl, rfl⟩
    · rw [if_neg e, if_neg e, if_neg e]
      exact ⟨rfl, rfl⟩
theorem putL_at {l : List (ByteArray × Value)} (ho : once l = true) (s : ByteArray) (z : DataW Value) : (putL l).atKey (kS s) z = (match findK l s with | some v => .held v | none => z) := (putL_from (.map []) isMap_empty s z l ho).1
theorem putL_has {l : List (ByteArray × Value)} (ho : once l = true) (s : ByteArray) : Maps.has (putL l) (kS s) = (findK l s).isSome := by
  rw [show putL l = l.foldl (fun D p => D.put (kS p.1) (.held p.2)) (.map []) from rfl, (putL_from (.map []) isMap_empty s (.map []) l ho).2]
  exact Bool.or_false _
def getS : List S31 → ByteArray → Option ByteArray
  | [], _ => none
  | p :: r, n => if p.f0.toList = n.toList then some p.f1 else getS r n
def toldR : Option ByteArray → ByteArray × Bool
  | some v => (v, true)
  | none => (⟨#[]⟩, false)
theorem get_l0 (n : ByteArray) (l : List S31) (hl : l.length ≤ 9223372036854775806) : ∀ (k i : Nat), i ≤ l.length → l.length < k + i → resource_Get.l0 k n l l.length i = some (toldR (getS (l.drop i) n))
  | 0, i, hi, hk => by omega
  | k + 1, i, hi, hk => by
    unfold resource_Get.l0
    by_cases c : i < l.length
    · rw [if_pos (by omega), if_pos (by omega), if_pos (by omega), List.drop_eq_getElem_cons c]
      have e : rd_T31 l (i : Int) = l[i] := by unfold rd_T31; rw [Int.toNat_natCast, List.getD_eq_getElem?_getD, List.getElem?_eq_getElem c]; rfl
      unfold getS
      rw [e]
      by_cases d : l[i].f0.toList = n.toList
      · rw [if_pos d, if_pos d]; rfl
      · rw [if_neg d, if_neg d]
        have : wrap64 ((i : Int) + 1) = ((i + 1 : Nat) : Int) := by unfold wrap64; omega
        rw [this]
        exact get_l0 n l hl k (i + 1) (by omega) (by omega)
    · rw [if_neg (by omega)]
      have : l.drop i = [] := List.drop_eq_nil_of_le (by omega)
      rw [this]; rfl
theorem get_f (a b n : ByteArray) (l : List S31) (hl : l.length ≤ 9223372036854775806) : resource_Get.f (l.length + 1) a b l n = some (toldR (getS l n)) := get_l0 n l hl (l.length + 1) 0 (by omega) (by omega)
def titleS (kind s : ByteArray) : Bool :=
  if kind.toList = ([102, 105, 108, 101] : List UInt8) then (if (pathS s).2 = 0 then (if ((pathS s).1.length : Int) > 0 then (if (rdOf ByteArray.empty (pathS s).1 0).toList = ([116, 97, 98] : List UInt8) then false else (rdOf ByteArray.empty (pathS s).1 0).toList != ([114, 117, 110] : List UInt8)) else false) else false) else keyB s
theorem title_f (kind s : ByteArray) (hs : s.size < 2147483648) : resource_title.f kind s = some (titleS kind s) := by
  unfold resource_title.f titleS layout_Path.f
  rw [if_pos hs, key_f s hs]
  by_cases c : kind.toList = ([102, 105, 108, 101] : List UInt8)
  · rw [if_pos c, if_pos c, Option.bind_some]
    by_cases c1 : (pathS s).2 = 0
    · rw [if_pos c1, if_pos c1]
      by_cases c2 : ((pathS s).1.length : Int) > 0
      · rw [if_pos c2, if_pos c2, if_pos c2]
        by_cases c3 : (rdOf ByteArray.empty (pathS s).1 0).toList = ([116, 97, 98] : List UInt8)
        · rw [if_pos c3, if_pos c3]
        · rw [if_neg c3, if_neg c3]
      · rw [if_neg c2, if_neg c2]
    · rw [if_neg c1, if_neg c1]
  · rw [if_neg c, if_neg c]; rfl
def ensB : ByteArray := ⟨#[101, 110, 115, 117, 114, 101]⟩
def leS (a b : ByteArray) : Bool := Op.bytesLess a.toList b.toList || a.toList == b.toList
def toldV (v : ByteArray) : DataW Value := .held (.agg #[.string v])
def toldD (ens : ByteArray) (P : List S31) : DataW Value := P.foldl (fun D p => D.put (kS p.f0) (toldV p.f1)) ((DataW.map []).put (kS ensB) (toldV ens))
def toldAt (ens : ByteArray) (P : List S31) (s : ByteArray) : Option ByteArray := P.foldl (fun o p => if s = p.f0 then some p.f1 else o) (if s = ensB then some ens else none)
theorem told_from (D : DataW Value) (hD : IsMap D) (o : Option ByteArray) (s : ByteArray) (z : DataW Value) (h1 : D.atKey (kS s) z = (match o with | some v => toldV v | none => z)) (h2 : Maps.has D (kS s) = o.isSome) : ∀ P : List S31,
    ((P.foldl (fun D p => D.put (kS p.f0) (toldV p.f1)) D).atKey (kS s) z = (match P.foldl (fun o p => if s = p.f0 then some p.f1 else o) o with | some v => toldV v | none => z)) ∧ Maps.has (P.foldl (fun D p => D.put (kS p.f0) (toldV p.f1)) D) (kS s) = (P.foldl (fun o p => if s = p.f0 then some p.f1 else o) o).isSome := by
  intro P
  induction P generalizing D o with
  | nil => exact ⟨h1, h2⟩
  | cons p P ih =>
    simp only [List.foldl_cons]
    refine ih (D.put (kS p.f0) (toldV p.f1)) (hD.put _ _) (if s = p.f0 then some p.f1 else o) ?_ ?_
    · rw [at_put D hD]
      by_cases e : s = p.f0
      · rw [if_pos e, if_pos e]
      · rw [if_neg e, if_neg e]; exact h1
    · rw [has_put D hD]
      by_cases e : s = p.f0
      · rw [if_pos e, if_pos e]; rfl
      · rw [if_neg e, if_neg e]; exact h2
theorem toldD_at (ens : ByteArray) (P : List S31) (s : ByteArray) (z : DataW Value) : (toldD ens P).atKey (kS s) z = (match toldAt ens P s with | some v => toldV v | none => z) ∧ Maps.has (toldD ens P) (kS s) = (toldAt ens P s).isSome := by
  refine told_from _ (isMap_empty.put _ _) _ s z ?_ ?_ P
  · rw [at_put _ isMap_empty]
    by_cases e : s = ensB
    · rw [if_pos e, if_pos e]
    · rw [if_neg e, if_neg e]; rfl
  · rw [has_put _ isMap_empty]
    by_cases e : s = ensB
    · rw [if_pos e, if_pos e]; rfl
    · rw [if_neg e, if_neg e]; rfl
theorem toldD_snoc (ens : ByteArray) (P : List S31) (p : S31) : toldD ens (P ++ [p]) = (toldD ens P).put (kS p.f0) (toldV p.f1) := by simp [toldD]
theorem toldD_isMap (ens : ByteArray) (P : List S31) : IsMap (toldD ens P) := by
  unfold toldD
  have : ∀ (P : List S31) (D : DataW Value), IsMap D → IsMap (P.foldl (fun D p => D.put (kS p.f0) (toldV p.f1)) D) := by
    intro P
    induction P with
    | nil => intro D h; exact h
    | cons p P ih => intro D h; exact ih _ (h.put _ _)
  exact this P _ (isMap_empty.put _ _)
def knownS (rs : List (ByteArray × RuleD)) (p : S31) : Bool := p.f0.toList == ([101, 110, 115, 117, 114, 101] : List UInt8) || (match findK rs p.f0 with | some q => q.may p.f1 | none => false)
def stepOk (rs : List (ByteArray × RuleD)) (P : List S31) (i : Nat) : Bool := knownS rs (rd_T31 P i) && (decide (i = 0) || !leS (rd_T31 P i).f0 (rd_T31 P ((i - 1 : Nat) : Int)).f0)
def okP (rs : List (ByteArray × RuleD)) (P : List S31) : Bool := (List.range P.length).all (stepOk rs P)
def fullAt (ens : ByteArray) (P : List S31) (rs : List (ByteArray × RuleD)) (s : ByteArray) : Option ByteArray := match toldAt ens P s with | some v => some v | none => (findK rs s).map (·.dflt)
def namesS (rs : List (ByteArray × RuleD)) : List (List UInt8) := (ensB.data.toList :: rs.map (·.1.data.toList)).mergeSort leB
def outS (ens : ByteArray) (P : List S31) (rs : List (ByteArray × RuleD)) : List S31 := (namesS rs).map fun n => ⟨⟨n.toArray⟩, (fullAt ens P rs ⟨n.toArray⟩).getD ⟨#[]⟩⟩
def lacks (ens : ByteArray) (P : List S31) (rs : List (ByteArray × RuleD)) : Bool := rs.any fun x => x.2.must && (toldAt ens P x.1).isNone
def fullS (kind title : ByteArray) (P : List S31) : ByteArray × ByteArray × List S31 × Int :=
  match shapesD kind with
  | none => (⟨#[]⟩, ⟨#[]⟩, [], 60)
  | some (first, specs) =>
    if titleS kind title = true then
      (match findK specs ((getS P ensB).getD first) with
      | none => (⟨#[]⟩, ⟨#[]⟩, [], 62)
      | some rs => if okP rs P = true then (if lacks ((getS P ensB).getD first) P rs = true then (⟨#[]⟩, ⟨#[]⟩, [], 62) else (kind, title, outS ((getS P ensB).getD first) P rs, 0)) else (⟨#[]⟩, ⟨#[]⟩, [], 62))
    else (⟨#[]⟩, ⟨#[]⟩, [], 61)
def fitP (P : List S31) : Bool := P.all fun p => decide (p.f0.size < 2147483648) && decide (p.f1.size < 2147483648)
def resource_Full.f (a0_0 : ByteArray) (a0_1 : ByteArray) (l0_2 : List (S31)) : Option (ByteArray × ByteArray × (List (S31)) × Int) :=
  if a0_0.size < 2147483648 ∧ a0_1.size < 2147483648 ∧ l0_2.length < 2147483648 ∧ fitP l0_2 = true then some (fullS a0_0 a0_1 l0_2) else none
theorem shapes_calls (kind : ByteArray) (w : World) : Calls Tryz.prog 27 #[.string kind] w fun e w' => (shapesD kind = none ∧ e = .returned (.tuple #[.string ⟨#[]⟩, .map none]) ∧ Below w.heap.size w w') ∨ ∃ first specs b hi, shapesD kind = some (first, specs) ∧ e = .returned (.tuple #[.string first, .map (some b)]) ∧ St w w' b hi specs := by
  by_cases c0 : kind = ⟨#[102, 105, 108, 101]⟩
  · subst c0; exact (shapes_file w).mono fun e w' h => let ⟨b, hi, he, hs⟩ := h; .inr ⟨_, _, b, hi, rfl, he, hs⟩
  by_cases c1 : kind = ⟨#[97, 99, 99, 111, 117, 110, 116]⟩
  · subst c1; exact (shapes_account w).mono fun e w' h => let ⟨b, hi, he, hs⟩ := h; .inr ⟨_, _, b, hi, rfl, he, hs⟩
  by_cases c2 : kind = ⟨#[103, 114, 111, 117, 112]⟩
  · subst c2; exact (shapes_group w).mono fun e w' h => let ⟨b, hi, he, hs⟩ := h; .inr ⟨_, _, b, hi, rfl, he, hs⟩
  by_cases c3 : kind = ⟨#[112, 97, 99, 107, 97, 103, 101]⟩
  · subst c3; exact (shapes_package w).mono fun e w' h => let ⟨b, hi, he, hs⟩ := h; .inr ⟨_, _, b, hi, rfl, he, hs⟩
  by_cases c4 : kind = ⟨#[115, 101, 114, 118, 105, 99, 101]⟩
  · subst c4; exact (shapes_service w).mono fun e w' h => let ⟨b, hi, he, hs⟩ := h; .inr ⟨_, _, b, hi, rfl, he, hs⟩
  have hn : shapesD kind = none := by
    unfold shapesD
    rw [if_neg c0, if_neg c1, if_neg c2, if_neg c3, if_neg c4]
  exact (shapes_none kind w hn).mono fun e w' h => .inl ⟨hn, h.1, h.2⟩
end Go.Proofs.YtkgafkoopefghaaGreatDoor.PA
end
section
set_option linter.unusedVariables false
set_option linter.unusedSimpArgs false
namespace Go.Proofs.YtkgafkoopefghaaGreatDoor.PA
open Go.RowKit Go.Maps Go.WideMaps Go.Proofs.YtkgafkoopefghaaGreatDoor.Hk Go.Proofs.YtkgafkoopefghaaGreatDoorW.PrintWords
def prefB (a b : ByteArray) : Bool := decide (b.size ≤ a.size) && (a.extract 0 b.size).toList == b.toList
theorem prefix_f (a b : ByteArray) : stringslite_HasPrefix.f a b = some (prefB a b) := by
  unfold stringslite_HasPrefix.f prefB
  by_cases c : b.size ≤ a.size
  · rw [if_pos (by omega), if_pos (by omega), if_pos (by omega), decide_eq_true c, Int.toNat_natCast, Bool.true_and]
  · rw [if_neg (by omega), decide_eq_false c]; rfl
set_option maxRecDepth 100000 in
theorem hasPrefix_calls (a b : ByteArray) (w : World) : Calls Tryz.prog 83 #[.string a, .string b] w fun e w' => e = .returned (.bool (prefB a b)) ∧ Below w.heap.size w w' := by
  have HC := As.mk (fun w => stringslite_HasPrefix.calls a b _ w (prefix_f a b))
  generalize prefB a b = r at HC ⊢
  go_enter Tryz.func83, Tryz.ntmps83
  go_wp2_with (go_at_call 104; refine (HC.out _).mono ?_; rintro e w1 ⟨rfl, hb⟩; have HB := As.mk hb.below; clear hb)
  go_ret
  exact ⟨rfl, HB.out⟩
def getE (s : S24) : ByteArray := (toldR (getS s.f2 ensB)).1
def slashB : ByteArray := ⟨#[47]⟩
def blkB (t : ByteArray) (b : S24) : Bool := b.f0.toList == ([102, 105, 108, 101] : List UInt8) && (getE b).toList != ([97, 98, 115, 101, 110, 116] : List UInt8) && prefB b.f1 (t ++ slashB)
def blkA (a : S24) : Bool := a.f0.toList != ([102, 105, 108, 101] : List UInt8) || (getE a).toList == ([100, 105, 114, 101, 99, 116, 111, 114, 121] : List UInt8)
set_option maxRecDepth 100000 in
set_option maxHeartbeats 2000000 in
theorem blk1_calls (t1 : ByteArray) (hs : t1.size < 2147483648) (s : S24) (hl : s.f2.length < 2147483648) (A : Option Addr) (c : Nat) (g4 : Nat) (W : World) (hA : Kd.C k31 W A s.f2.length s.f2) (hc : s.f2.length ≤ c) (h4 : W.cell? ⟨g4, 1, none⟩ = some (.string t1)) :
    Calls Tryz.prog 82 #[.agg #[.string s.f0, .string s.f1, .slice A s.f2.length c], .pointer (some ⟨g4, 0, none⟩)] W fun e w' => e = .returned (.bool (blkB t1 s)) ∧ Below W.heap.size W w' := by
  obtain ⟨k, t, q⟩ := s
  have hg := get_f k t ensB q (by simp only [] at hl; omega)
  obtain ⟨r1, r2, hr⟩ : ∃ r1 r2, toldR (getS q ensB) = (r1, r2) := ⟨_, _, rfl⟩
  rw [hr] at hg
  have he : getE ⟨k, t, q⟩ = r1 := by unfold getE; rw [hr]
  unfold blkB
  rw [he]
  simp only [] at hA hc ⊢
  clear he hr hl
  have HP := As.mk (fun w => hasPrefix_calls t (t1 ++ slashB) w)
  generalize prefB t (t1 ++ slashB) = b3 at HP ⊢
  have hz : (9223372036854775807 < t1.size + 1) = False := eq_false (by omega)
  have hu24 := Tryz.underlying24
  have HA := As.mk hA
  have HC := As.mk hc
  have HG := As.mk hg
  clear hA hc hg
  have K4 := As.mk h4
  clear h4
  have HB := As.mk (Below.refl W.heap.size W)
  cases ck : k.toList == ([102, 105, 108, 101] : List UInt8) with
  | false =>
    go_enter Tryz.func82, Tryz.ntmps82
    go_wp2_with (first
      | ((with_reducible refine gate_dst (N := 2) rfl ?_); refine box_event ?hg (N := 2) ?hd (cs := #[.string k, .string t, .slice A q.length c]) (t := 24) ?hr ?_; (case hd => rfl); (case hg => rfl); (case hr => first | (go_simp; done) | (go_simp; rfl)); intro g1 hg w1 hbox hb; have n1 := As.mk hb; clear HB; have HB := n1; clear n1; have BK := As.mk hbox; have k0 : w1.cell? ⟨g1, 0, none⟩ = some (.string k) := (kC hbox 0).trans rfl; have k1 : w1.cell? ⟨g1, 1, none⟩ = some (.string t) := (kC hbox 1).trans rfl; have k2 : w1.cell? ⟨g1, 2, none⟩ = some (.slice A q.length c) := (kC hbox 2).trans rfl; clear hb hbox hg)
      | (go_at_call 29; refine (resource_Get.calls _ k t A c q _ _ _ _ (Kd.C_below HA.out HB.out) HC.out HG.out).mono ?_; rintro e w2 ⟨rfl, hb⟩; have hbox := kB BK.out hb; have n1 := As.mk (HB.out.trans (hb.mono HB.out.size)); clear HB; have HB := n1; clear n1; have k0 : w2.cell? ⟨g1, 0, none⟩ = some (.string k) := (kC hbox 0).trans rfl; have k1 : w2.cell? ⟨g1, 1, none⟩ = some (.string t) := (kC hbox 1).trans rfl; clear hbox hb))
    go_ret
    exact ⟨rfl, HB.out⟩
  | true =>
    cases ce : r1.toList == ([97, 98, 115, 101, 110, 116] : List UInt8) with
    | true =>
      have cn : (r1.toList != ([97, 98, 115, 101, 110, 116] : List UInt8)) = false := by rw [bne, ce]; rfl
      rw [cn]
      go_enter Tryz.func82, Tryz.ntmps82
      go_wp2_with (first
        | ((with_reducible refine gate_dst (N := 2) rfl ?_); refine box_event ?hg (N := 2) ?hd (cs := #[.string k, .string t, .slice A q.length c]) (t := 24) ?hr ?_; (case hd => rfl); (case hg => rfl); (case hr => first | (go_simp; done) | (go_simp; rfl)); intro g1 hg w1 hbox hb; have n1 := As.mk hb; clear HB; have HB := n1; clear n1; have BK := As.mk hbox; have k0 : w1.cell? ⟨g1, 0, none⟩ = some (.string k) := (kC hbox 0).trans rfl; have k1 : w1.cell? ⟨g1, 1, none⟩ = some (.string t) := (kC hbox 1).trans rfl; have k2 : w1.cell? ⟨g1, 2, none⟩ = some (.slice A q.length c) := (kC hbox 2).trans rfl; clear hb hbox hg)
        | (go_at_call 29; refine (resource_Get.calls _ k t A c q _ _ _ _ (Kd.C_below HA.out HB.out) HC.out HG.out).mono ?_; rintro e w2 ⟨rfl, hb⟩; have hbox := kB BK.out hb; have n1 := As.mk (HB.out.trans (hb.mono HB.out.size)); clear HB; have HB := n1; clear n1; have k0 : w2.cell? ⟨g1, 0, none⟩ = some (.string k) := (kC hbox 0).trans rfl; have k1 : w2.cell? ⟨g1, 1, none⟩ = some (.string t) := (kC hbox 1).trans rfl; clear hbox hb))
      go_ret
      exact ⟨rfl, HB.out⟩
    | false =>
      have cn : (r1.toList != ([97, 98, 115, 101, 110, 116] : List UInt8)) = true := by rw [bne, ce]; rfl
      rw [cn]
      go_enter Tryz.func82, Tryz.ntmps82
      go_wp2_with (first
        | ((with_reducible refine gate_dst (N := 2) rfl ?_); refine box_event ?hg (N := 2) ?hd (cs := #[.string k, .string t, .slice A q.length c]) (t := 24) ?hr ?_; (case hd => rfl); (case hg => rfl); (case hr => first | (go_simp; done) | (go_simp; rfl)); intro g1 hg w1 hbox hb; have n1 := As.mk hb; clear HB; have HB := n1; clear n1; have BK := As.mk hbox; have k0 : w1.cell? ⟨g1, 0, none⟩ = some (.string k) := (kC hbox 0).trans rfl; have k1 : w1.cell? ⟨g1, 1, none⟩ = some (.string t) := (kC hbox 1).trans rfl; have k2 : w1.cell? ⟨g1, 2, none⟩ = some (.slice A q.length c) := (kC hbox 2).trans rfl; clear hb hbox hg)
        | (go_at_call 29; refine (resource_Get.calls _ k t A c q _ _ _ _ (Kd.C_below HA.out HB.out) HC.out HG.out).mono ?_; rintro e w2 ⟨rfl, hb⟩; have hbox := kB BK.out hb; have n1 := As.mk (HB.out.trans (hb.mono HB.out.size)); clear HB; have HB := n1; clear n1; have k4 := (HB.out.cell (World.block_lt_of_cell? _ _ K4.out)).trans K4.out; have k0 : w2.cell? ⟨g1, 0, none⟩ = some (.string k) := (kC hbox 0).trans rfl; have k1 : w2.cell? ⟨g1, 1, none⟩ = some (.string t) := (kC hbox 1).trans rfl; clear hbox hb)
        | (go_at_call 83; refine (HP.out _).mono ?_; rintro e w3 ⟨rfl, hb⟩; have n1 := As.mk (HB.out.trans (hb.mono HB.out.size)); clear HB; have HB := n1; clear n1 hb))
      go_ret
      exact ⟨rfl, HB.out⟩
theorem enters_blk1 : ∀ args w, (callFunc 82 args).run Tryz.prog w = .ok (.enter 82 args) w := fun args w => by kernel_rfl
set_option maxRecDepth 100000 in
set_option maxHeartbeats 1000000 in
theorem contains24_calls (g : Nat) (lb : Array Value) (eg : ∀ args w, (callFunc g args).run Tryz.prog w = .ok (.enter g args) w) (p : S24 → Bool) (A0 : Option Addr) (c0 : Nat) (l0 : List S24) (w : World) (hr : Kd.C k24 w A0 l0.length l0) (hf : FnR g lb p l0 w) (hl : l0.length ≤ 9223372036854775806) :
    Calls Tryz.prog 81 #[.slice A0 l0.length c0, .func (.func g) #[] lb] w fun e w' => e = .returned (.bool (l0.any p)) ∧ Below w.heap.size w w' := by
  have HI := As.mk (index24_calls g lb eg p A0 c0 l0 w hr hf hl)
  have hd : decide (0 ≤ idxS p l0) = l0.any p := by
    have e : ∀ j : Nat, (h : j < l0.length) → rd_T24 l0 (j : Int) = l0[j] := fun j h => by unfold rd_T24; rw [Int.toNat_natCast, List.getD_eq_getElem?_getD, List.getElem?_eq_getElem h]; rfl
    rcases idxS_cases p l0 with ⟨h1, h2⟩ | ⟨i, hi, h1, h2, _⟩
    · rw [h1, decide_eq_false (by decide)]
      symm
      rw [List.any_eq_false]
      intro x hx
      obtain ⟨j, hj, rfl⟩ := List.mem_iff_getElem.1 hx
      rw [← e j hj, h2 j hj]; decide
    · rw [h1, decide_eq_true (by omega)]
      exact (List.any_eq_true.2 ⟨_, List.getElem_mem hi, by rw [← e i hi]; exact h2⟩).symm
  clear hr hf
  have HD := As.mk hd
  clear hd
  generalize idxS p l0 = r at HI HD
  go_enter Tryz.func81, Tryz.ntmps81
  go_wp2_with (go_at_call 50; refine HI.out.mono ?_; rintro e w1 ⟨rfl, hb⟩)
  go_ret
  exact ⟨by rw [← HD.out]; rfl, hb⟩
def blockedS (l : List S24) : Bool := l.any fun a => !blkA a && l.any (blkB a.f1)
def fitR (l : List S24) : Bool := decide (l.length < 2147483648) && l.all fun s => decide (s.f0.size < 2147483648) && decide (s.f1.size < 2147483648) && decide (s.f2.length < 2147483648) && fitP s.f2
theorem fitR_at {l : List S24} (h : fitR l = true) {s : S24} (hs : s ∈ l) : s.f0.size < 2147483648 ∧ s.f1.size < 2147483648 ∧ s.f2.length < 2147483648 ∧ fitP s.f2 = true := by
  unfold fitR at h
  rw [Bool.and_eq_true] at h
  have := List.all_eq_true.1 h.2 s hs
  simp only [Bool.and_eq_true, decide_eq_true_eq] at this
  exact ⟨this.1.1.1, this.1.1.2, this.1.2, this.2⟩
def catalog_blocked.f (l0 : List (S24)) : Option (Bool) := if fitR l0 = true then some (blockedS l0) else none
theorem blocked_yes {l : List S24} {a : S24} (ha : a ∈ l) (h1 : blkA a = false) (h2 : l.any (blkB a.f1) = true) : blockedS l = true := List.any_eq_true.2 ⟨a, ha, by rw [h1, h2]; rfl⟩
theorem blocked_no {l : List S24} (h : ∀ j : Nat, j < l.length → (!blkA (rd_T24 l (j : Int)) && l.any (blkB (rd_T24 l (j : Int)).f1)) = false) : blockedS l = false := by
  unfold blockedS
  rw [List.any_eq_false]
  intro x hx
  obtain ⟨j, hj, rfl⟩ := List.mem_iff_getElem.1 hx
  have := h j hj
  unfold rd_T24 at this
  rw [Int.toNat_natCast, List.getD_eq_getElem?_getD, List.getElem?_eq_getElem hj] at this
  intro h2
  rw [show ((!blkA l[j] && l.any (blkB l[j].f1)) = false) from this] at h2
  cases h2
set_option maxRecDepth 100000 in
set_option maxHeartbeats 4000000 in
theorem catalog_blocked.calls (A0 : Option Addr) (c0 : Nat) (l0 : List (S24)) (r : Bool) (w : World) (hr0 : Kd.C k24 w A0 l0.length l0) (hc0 : l0.length ≤ c0) (h : catalog_blocked.f l0 = some r) :
    Calls Tryz.prog 42 #[.slice A0 l0.length c0] w fun e w' => e = .returned (.bool r) ∧ Below w.heap.size w w' := by
  unfold catalog_blocked.f at h
  by_cases c : fitR l0 = true
  rotate_left
  · rw [if_neg c] at h; cases h
  rw [if_pos c] at h
  obtain rfl := Option.some.inj h
  clear h
  have HF := As.mk c
  have hlen : l0.length < 2147483648 := by unfold fitR at c; rw [Bool.and_eq_true, decide_eq_true_eq] at c; exact c.1
  clear c
  have HR := As.mk hr0
  clear hr0
  have hu24 := Tryz.underlying24
  go_enter Tryz.func42, Tryz.ntmps42
  go_wp2
  go_loopg [9] l0.length (fun kq v9 w' => ∃ i : Nat, v9 = .int .i64 i ∧ As (i + kq = l0.length) ∧ As (∀ j : Nat, j < i → (!blkA (rd_T24 l0 (j : Int)) && l0.any (blkB (rd_T24 l0 (j : Int)).f1)) = false) ∧ As (Below w.heap.size w w'))
  case atStart => exact ⟨0, rfl, ⟨by omega⟩, ⟨fun j hj => by omega⟩, ⟨Below.refl _ _⟩⟩
  case round =>
    obtain ⟨i, rfl, HK, HA, HB⟩ := hrel
    by_cases hlt : i < l0.length
    rotate_left
    · have hge : ¬ (i : Int) < (l0.length : Int) := by omega
      go_wp2
      go_ret
      exact ⟨by rw [blocked_no (fun j hj => HA.out j (by have := HK.out; omega))]; rfl, HB.out⟩
    have hlt' : (i : Int) < (l0.length : Int) := by omega
    obtain ⟨ad, A2, c2, ead, hx0, hx1, hx2, hl2, hi2⟩ := at_T24 HR.out (i : Int) (by omega) hlt'
    replace hx0 := (HB.out.cell (World.block_lt_of_cell? w _ hx0)).trans hx0
    replace hx1 := (HB.out.cell (World.block_lt_of_cell? w _ hx1)).trans hx1
    replace hx2 := (HB.out.cell (World.block_lt_of_cell? w _ hx2)).trans hx2
    cases ead
    obtain ⟨s, hs⟩ : ∃ s, rd_T24 l0 (i : Int) = s := ⟨_, rfl⟩
    have hm : s ∈ l0 := by rw [← hs]; exact rd24_mem (by omega) hlt'
    simp only [Int.toNat_natCast] at hx0 hx1 hx2
    rw [hs] at hx0 hx1 hx2 hl2 hi2
    have HS := As.mk hs
    have hft := fitR_at HF.out hm
    have HM := As.mk hm
    clear hs hm
    have HI := As.mk hi2
    have HL2 := As.mk hl2
    clear hi2 hl2
    obtain ⟨k, t, q⟩ := s
    simp only [] at hx0 hx1 hx2 hft
    have hgt := get_f k t ensB q (by have := hft.2.2.1; omega)
    obtain ⟨r1, r2, hr⟩ : ∃ r1 r2, toldR (getS q ensB) = (r1, r2) := ⟨_, _, rfl⟩
    rw [hr] at hgt
    have hbl : blkA ⟨k, t, q⟩ = (k.toList != ([102, 105, 108, 101] : List UInt8) || r1.toList == ([100, 105, 114, 101, 99, 116, 111, 114, 121] : List UInt8)) := by unfold blkA getE; rw [hr]
    have HBL := As.mk hbl
    have HG := As.mk hgt
    have HFT := As.mk hft.2.1
    clear hgt hr hbl hft
    have HAny := As.mk (fun (W : World) (g4 : Nat) (h4 : W.cell? ⟨g4, 1, none⟩ = some (.string t)) (hb : Below w.heap.size w W) => contains24_calls 82 #[.pointer (some ⟨g4, 0, none⟩)] enters_blk1 (blkB t) (some ad) c0 l0 W (Kd.C_below HR.out hb) (fun W' s A c hs hb' hA hc => blk1_calls t HFT.out s (fitR_at HF.out hs).2.2.1 A c g4 W' hA hc ((hb'.cell (World.block_lt_of_cell? _ _ h4)).trans h4)) (by omega))
    have HBY := As.mk (fun (h1 : blkA ⟨k, t, q⟩ = false) (h2 : l0.any (blkB t) = true) => blocked_yes HM.out h1 h2)
    generalize hq : l0.any (blkB t) = any at HAny
    have HQ := As.mk hq
    clear hq
    cases hbk : blkA ⟨k, t, q⟩ with
    | true =>
      have hv := HBL.out
      rw [hbk] at hv
      have HV := As.mk hbk
      clear HBL hbk HAny HBY
      cases ck : k.toList != ([102, 105, 108, 101] : List UInt8) with
      | true =>
        have ck2 : (k.toList == ([102, 105, 108, 101] : List UInt8)) = false := by rw [bne] at ck; simpa using ck
        clear hv
        go_wp2_with (first
          | ((with_reducible refine gate_dst (N := 4) rfl ?_); refine box_event ?hg (N := 4) ?hd (cs := #[.string (⟨#[]⟩ : ByteArray), .string (⟨#[]⟩ : ByteArray), .slice none 0 0]) (t := 24) ?hr ?_; (case hd => rfl); (case hg => rfl); (case hr => first | (go_simp; done) | (go_simp; rfl)); intro g4 hg w1 hbox hb; have GE := As.mk ((by rw [hg]; exact HB.out.size) : w.heap.size ≤ g4); have n1 := As.mk (HB.out.trans (hb.mono HB.out.size)); clear HB; have HB := n1; clear n1; have BK := As.mk hbox; clear hb hbox hg; have k0 : w1.cell? ⟨g4, 0, none⟩ = some (.string (⟨#[]⟩ : ByteArray)) := (kC BK.out 0).trans rfl; have z0 := kF BK.out 0; have k1 : w1.cell? ⟨g4, 1, none⟩ = some (.string (⟨#[]⟩ : ByteArray)) := (kC BK.out 1).trans rfl; have z1 := kF BK.out 1; have k2 : w1.cell? ⟨g4, 2, none⟩ = some (.slice none 0 0) := (kC BK.out 2).trans rfl; have z2 := kF BK.out 2)
          | ((with_reducible refine gate_store (t := 24) (p := 4) rfl ?_); refine store_event (t := 24) (p := 4) (v := ?vo71) (w1 := ?wo71) ?hg ?ho ?hn ?hr ?_; (case ho => rfl); (case hg => rfl); (case hn => rfl); (case hr => first | (go_simp; done) | (go_simp; rfl)); intro w2 hw; have n1 := As.mk ((by rw [hw]; refine kP (cs := #[.string k, .string t, .slice none 0 0]) ?_ 2 _ rfl; refine kP (cs := #[.string k, .string (⟨#[]⟩ : ByteArray), .slice none 0 0]) ?_ 1 _ rfl; refine kP (cs := #[.string (⟨#[]⟩ : ByteArray), .string (⟨#[]⟩ : ByteArray), .slice none 0 0]) ?_ 0 _ rfl; (with_reducible repeat (first | refine kN ?_ _ | refine kD ?_ | refine kA ?_ _)); exact BK.out) : w2.heap[g4]? = some (.cells #[.string k, .string t, .slice A2 q.length c2] 24 (0, 0))); have n2 := As.mk ((by rw [hw]; exact bS (bS (bS HB.out GE.out) GE.out) GE.out) : Below w.heap.size w w2); clear BK k0 k1 k2 z0 z1 z2; have BK := n1; clear HB; have HB := n2; clear n1 n2 hw; have k0 : w2.cell? ⟨g4, 0, none⟩ = some (.string k) := (kC BK.out 0).trans rfl; have k1 : w2.cell? ⟨g4, 1, none⟩ = some (.string t) := (kC BK.out 1).trans rfl; have k2 : w2.cell? ⟨g4, 2, none⟩ = some (.slice A2 q.length c2) := (kC BK.out 2).trans rfl)
          | (go_at_call 29; refine (resource_Get.calls _ k t A2 c2 q _ _ _ _ (Kd.C_below HI.out HB.out) HL2.out HG.out).mono ?_; rintro e w3 ⟨rfl, hb⟩; have n1 := As.mk (kB BK.out hb); have n2 := As.mk (HB.out.trans (hb.mono HB.out.size)); clear BK; have BK := n1; clear HB; have HB := n2; clear n1 n2 hb; have k0 : w3.cell? ⟨g4, 0, none⟩ = some (.string k) := (kC BK.out 0).trans rfl; have k1 : w3.cell? ⟨g4, 1, none⟩ = some (.string t) := (kC BK.out 1).trans rfl)
          | (go_at_call 81; refine (HAny.out _ g4 k1 HB.out).mono ?_; rintro e w4 ⟨rfl, hb⟩; have n2 := As.mk (HB.out.trans (hb.mono HB.out.size)); clear HB; have HB := n2; clear n2 hb))
        go_roundg (l0.length - (i + 1))
        case measure => have := HK.out; omega
        case rel =>
          refine ⟨i + 1, by go_num, ⟨by omega⟩, ⟨fun j hj => ?_⟩, HB⟩
          by_cases e : j = i
          · subst e; rw [HS.out, HV.out]; rfl
          · exact HA.out j (by omega)
      | false =>
        have cd : (r1.toList == ([100, 105, 114, 101, 99, 116, 111, 114, 121] : List UInt8)) = true := by rw [ck] at hv; exact hv.symm
        have ck2 : (k.toList == ([102, 105, 108, 101] : List UInt8)) = true := by rw [bne] at ck; simpa using ck
        clear hv
        go_wp2_with (first
          | ((with_reducible refine gate_dst (N := 4) rfl ?_); refine box_event ?hg (N := 4) ?hd (cs := #[.string (⟨#[]⟩ : ByteArray), .string (⟨#[]⟩ : ByteArray), .slice none 0 0]) (t := 24) ?hr ?_; (case hd => rfl); (case hg => rfl); (case hr => first | (go_simp; done) | (go_simp; rfl)); intro g4 hg w1 hbox hb; have GE := As.mk ((by rw [hg]; exact HB.out.size) : w.heap.size ≤ g4); have n1 := As.mk (HB.out.trans (hb.mono HB.out.size)); clear HB; have HB := n1; clear n1; have BK := As.mk hbox; clear hb hbox hg; have k0 : w1.cell? ⟨g4, 0, none⟩ = some (.string (⟨#[]⟩ : ByteArray)) := (kC BK.out 0).trans rfl; have z0 := kF BK.out 0; have k1 : w1.cell? ⟨g4, 1, none⟩ = some (.string (⟨#[]⟩ : ByteArray)) := (kC BK.out 1).trans rfl; have z1 := kF BK.out 1; have k2 : w1.cell? ⟨g4, 2, none⟩ = some (.slice none 0 0) := (kC BK.out 2).trans rfl; have z2 := kF BK.out 2)
          | ((with_reducible refine gate_store (t := 24) (p := 4) rfl ?_); refine store_event (t := 24) (p := 4) (v := ?vo72) (w1 := ?wo72) ?hg ?ho ?hn ?hr ?_; (case ho => rfl); (case hg => rfl); (case hn => rfl); (case hr => first | (go_simp; done) | (go_simp; rfl)); intro w2 hw; have n1 := As.mk ((by rw [hw]; refine kP (cs := #[.string k, .string t, .slice none 0 0]) ?_ 2 _ rfl; refine kP (cs := #[.string k, .string (⟨#[]⟩ : ByteArray), .slice none 0 0]) ?_ 1 _ rfl; refine kP (cs := #[.string (⟨#[]⟩ : ByteArray), .string (⟨#[]⟩ : ByteArray), .slice none 0 0]) ?_ 0 _ rfl; (with_reducible repeat (first | refine kN ?_ _ | refine kD ?_ | refine kA ?_ _)); exact BK.out) : w2.heap[g4]? = some (.cells #[.string k, .string t, .slice A2 q.length c2] 24 (0, 0))); have n2 := As.mk ((by rw [hw]; exact bS (bS (bS HB.out GE.out) GE.out) GE.out) : Below w.heap.size w w2); clear BK k0 k1 k2 z0 z1 z2; have BK := n1; clear HB; have HB := n2; clear n1 n2 hw; have k0 : w2.cell? ⟨g4, 0, none⟩ = some (.string k) := (kC BK.out 0).trans rfl; have k1 : w2.cell? ⟨g4, 1, none⟩ = some (.string t) := (kC BK.out 1).trans rfl; have k2 : w2.cell? ⟨g4, 2, none⟩ = some (.slice A2 q.length c2) := (kC BK.out 2).trans rfl)
          | (go_at_call 29; refine (resource_Get.calls _ k t A2 c2 q _ _ _ _ (Kd.C_below HI.out HB.out) HL2.out HG.out).mono ?_; rintro e w3 ⟨rfl, hb⟩; have n1 := As.mk (kB BK.out hb); have n2 := As.mk (HB.out.trans (hb.mono HB.out.size)); clear BK; have BK := n1; clear HB; have HB := n2; clear n1 n2 hb; have k0 : w3.cell? ⟨g4, 0, none⟩ = some (.string k) := (kC BK.out 0).trans rfl; have k1 : w3.cell? ⟨g4, 1, none⟩ = some (.string t) := (kC BK.out 1).trans rfl)
          | (go_at_call 81; refine (HAny.out _ g4 k1 HB.out).mono ?_; rintro e w4 ⟨rfl, hb⟩; have n2 := As.mk (HB.out.trans (hb.mono HB.out.size)); clear HB; have HB := n2; clear n2 hb))
        go_roundg (l0.length - (i + 1))
        case measure => have := HK.out; omega
        case rel =>
          refine ⟨i + 1, by go_num, ⟨by omega⟩, ⟨fun j hj => ?_⟩, HB⟩
          by_cases e : j = i
          · subst e; rw [HS.out, HV.out]; rfl
          · exact HA.out j (by omega)
    | false =>
      have hv := HBL.out
      rw [hbk] at hv
      have ck : (k.toList != ([102, 105, 108, 101] : List UInt8)) = false := by cases h : (k.toList != ([102, 105, 108, 101] : List UInt8)) with | false => rfl | true => rw [h] at hv; cases hv
      have cd : (r1.toList == ([100, 105, 114, 101, 99, 116, 111, 114, 121] : List UInt8)) = false := by rw [ck] at hv; exact hv.symm
      have HV := As.mk hbk
      have ck2 : (k.toList == ([102, 105, 108, 101] : List UInt8)) = true := by rw [bne] at ck; simpa using ck
      clear HBL hbk hv
      cases any with
      | true =>
        go_wp2_with (first
          | ((with_reducible refine gate_dst (N := 4) rfl ?_); refine box_event ?hg (N := 4) ?hd (cs := #[.string (⟨#[]⟩ : ByteArray), .string (⟨#[]⟩ : ByteArray), .slice none 0 0]) (t := 24) ?hr ?_; (case hd => rfl); (case hg => rfl); (case hr => first | (go_simp; done) | (go_simp; rfl)); intro g4 hg w1 hbox hb; have GE := As.mk ((by rw [hg]; exact HB.out.size) : w.heap.size ≤ g4); have n1 := As.mk (HB.out.trans (hb.mono HB.out.size)); clear HB; have HB := n1; clear n1; have BK := As.mk hbox; clear hb hbox hg; have k0 : w1.cell? ⟨g4, 0, none⟩ = some (.string (⟨#[]⟩ : ByteArray)) := (kC BK.out 0).trans rfl; have z0 := kF BK.out 0; have k1 : w1.cell? ⟨g4, 1, none⟩ = some (.string (⟨#[]⟩ : ByteArray)) := (kC BK.out 1).trans rfl; have z1 := kF BK.out 1; have k2 : w1.cell? ⟨g4, 2, none⟩ = some (.slice none 0 0) := (kC BK.out 2).trans rfl; have z2 := kF BK.out 2)
          | ((with_reducible refine gate_store (t := 24) (p := 4) rfl ?_); refine store_event (t := 24) (p := 4) (v := ?vo73) (w1 := ?wo73) ?hg ?ho ?hn ?hr ?_; (case ho => rfl); (case hg => rfl); (case hn => rfl); (case hr => first | (go_simp; done) | (go_simp; rfl)); intro w2 hw; have n1 := As.mk ((by rw [hw]; refine kP (cs := #[.string k, .string t, .slice none 0 0]) ?_ 2 _ rfl; refine kP (cs := #[.string k, .string (⟨#[]⟩ : ByteArray), .slice none 0 0]) ?_ 1 _ rfl; refine kP (cs := #[.string (⟨#[]⟩ : ByteArray), .string (⟨#[]⟩ : ByteArray), .slice none 0 0]) ?_ 0 _ rfl; (with_reducible repeat (first | refine kN ?_ _ | refine kD ?_ | refine kA ?_ _)); exact BK.out) : w2.heap[g4]? = some (.cells #[.string k, .string t, .slice A2 q.length c2] 24 (0, 0))); have n2 := As.mk ((by rw [hw]; exact bS (bS (bS HB.out GE.out) GE.out) GE.out) : Below w.heap.size w w2); clear BK k0 k1 k2 z0 z1 z2; have BK := n1; clear HB; have HB := n2; clear n1 n2 hw; have k0 : w2.cell? ⟨g4, 0, none⟩ = some (.string k) := (kC BK.out 0).trans rfl; have k1 : w2.cell? ⟨g4, 1, none⟩ = some (.string t) := (kC BK.out 1).trans rfl; have k2 : w2.cell? ⟨g4, 2, none⟩ = some (.slice A2 q.length c2) := (kC BK.out 2).trans rfl)
          | (go_at_call 29; refine (resource_Get.calls _ k t A2 c2 q _ _ _ _ (Kd.C_below HI.out HB.out) HL2.out HG.out).mono ?_; rintro e w3 ⟨rfl, hb⟩; have n1 := As.mk (kB BK.out hb); have n2 := As.mk (HB.out.trans (hb.mono HB.out.size)); clear BK; have BK := n1; clear HB; have HB := n2; clear n1 n2 hb; have k0 : w3.cell? ⟨g4, 0, none⟩ = some (.string k) := (kC BK.out 0).trans rfl; have k1 : w3.cell? ⟨g4, 1, none⟩ = some (.string t) := (kC BK.out 1).trans rfl)
          | (go_at_call 81; refine (HAny.out _ g4 k1 HB.out).mono ?_; rintro e w4 ⟨rfl, hb⟩; have n2 := As.mk (HB.out.trans (hb.mono HB.out.size)); clear HB; have HB := n2; clear n2 hb))
        go_ret
        exact ⟨by rw [HBY.out HV.out HQ.out]; rfl, HB.out⟩
      | false =>
        go_wp2_with (first
          | ((with_reducible refine gate_dst (N := 4) rfl ?_); refine box_event ?hg (N := 4) ?hd (cs := #[.string (⟨#[]⟩ : ByteArray), .string (⟨#[]⟩ : ByteArray), .slice none 0 0]) (t := 24) ?hr ?_; (case hd => rfl); (case hg => rfl); (case hr => first | (go_simp; done) | (go_simp; rfl)); intro g4 hg w1 hbox hb; have GE := As.mk ((by rw [hg]; exact HB.out.size) : w.heap.size ≤ g4); have n1 := As.mk (HB.out.trans (hb.mono HB.out.size)); clear HB; have HB := n1; clear n1; have BK := As.mk hbox; clear hb hbox hg; have k0 : w1.cell? ⟨g4, 0, none⟩ = some (.string (⟨#[]⟩ : ByteArray)) := (kC BK.out 0).trans rfl; have z0 := kF BK.out 0; have k1 : w1.cell? ⟨g4, 1, none⟩ = some (.string (⟨#[]⟩ : ByteArray)) := (kC BK.out 1).trans rfl; have z1 := kF BK.out 1; have k2 : w1.cell? ⟨g4, 2, none⟩ = some (.slice none 0 0) := (kC BK.out 2).trans rfl; have z2 := kF BK.out 2)
          | ((with_reducible refine gate_store (t := 24) (p := 4) rfl ?_); refine store_event (t := 24) (p := 4) (v := ?vo74) (w1 := ?wo74) ?hg ?ho ?hn ?hr ?_; (case ho => rfl); (case hg => rfl); (case hn => rfl); (case hr => first | (go_simp; done) | (go_simp; rfl)); intro w2 hw; have n1 := As.mk ((by rw [hw]; refine kP (cs := #[.string k, .string t, .slice none 0 0]) ?_ 2 _ rfl; refine kP (cs := #[.string k, .string (⟨#[]⟩ : ByteArray), .slice none 0 0]) ?_ 1 _ rfl; refine kP (cs := #[.string (⟨#[]⟩ : ByteArray), .string (⟨#[]⟩ : ByteArray), .slice none 0 0]) ?_ 0 _ rfl; (with_reducible repeat (first | refine kN ?_ _ | refine kD ?_ | refine kA ?_ _)); exact BK.out) : w2.heap[g4]? = some (.cells #[.string k, .string t, .slice A2 q.length c2] 24 (0, 0))); have n2 := As.mk ((by rw [hw]; exact bS (bS (bS HB.out GE.out) GE.out) GE.out) : Below w.heap.size w w2); clear BK k0 k1 k2 z0 z1 z2; have BK := n1; clear HB; have HB := n2; clear n1 n2 hw; have k0 : w2.cell? ⟨g4, 0, none⟩ = some (.string k) := (kC BK.out 0).trans rfl; have k1 : w2.cell? ⟨g4, 1, none⟩ = some (.string t) := (kC BK.out 1).trans rfl; have k2 : w2.cell? ⟨g4, 2, none⟩ = some (.slice A2 q.length c2) := (kC BK.out 2).trans rfl)
          | (go_at_call 29; refine (resource_Get.calls _ k t A2 c2 q _ _ _ _ (Kd.C_below HI.out HB.out) HL2.out HG.out).mono ?_; rintro e w3 ⟨rfl, hb⟩; have n1 := As.mk (kB BK.out hb); have n2 := As.mk (HB.out.trans (hb.mono HB.out.size)); clear BK; have BK := n1; clear HB; have HB := n2; clear n1 n2 hb; have k0 : w3.cell? ⟨g4, 0, none⟩ = some (.string k) := (kC BK.out 0).trans rfl; have k1 : w3.cell? ⟨g4, 1, none⟩ = some (.string t) := (kC BK.out 1).trans rfl)
          | (go_at_call 81; refine (HAny.out _ g4 k1 HB.out).mono ?_; rintro e w4 ⟨rfl, hb⟩; have n2 := As.mk (HB.out.trans (hb.mono HB.out.size)); clear HB; have HB := n2; clear n2 hb))
        go_roundg (l0.length - (i + 1))
        case measure => have := HK.out; omega
        case rel =>
          refine ⟨i + 1, by go_num, ⟨by omega⟩, ⟨fun j hj => ?_⟩, HB⟩
          by_cases e : j = i
          · subst e; rw [HS.out]; show (!blkA ⟨k, t, q⟩ && l0.any (blkB t)) = false; rw [HQ.out, Bool.and_false]
          · exact HA.out j (by omega)
end Go.Proofs.YtkgafkoopefghaaGreatDoor.PA
end
