/- A part of this law; its conditions stand in the last text. -/
import Derived.Test.YtkgafkoopefghaaGreatDoorCc38
import Derived.Test.YtkgafkoopefghaaGreatDoorCc30
import Derived.Test.YtkgafkoopefghaaGreatDoorCc33
section
set_option linter.unusedVariables false
set_option linter.unusedSimpArgs false
namespace Go.Proofs.YtkgafkoopefghaaGreatDoor.PA
open Go.RowKit Go.Maps Go.WideMaps Go.Proofs.YtkgafkoopefghaaGreatDoor.Hk Go.Proofs.YtkgafkoopefghaaGreatDoorW.PrintWords
theorem s31_iff (x y : S31) : x = y ↔ x.f0 = y.f0 ∧ x.f1 = y.f1 := ⟨fun h => by rw [h]; exact ⟨rfl, rfl⟩, fun h => by cases x; cases y; simp only at h; rw [h.1, h.2]⟩
instance : DecidableEq S31 := fun x y => decidable_of_iff (x.f0 = y.f0 ∧ x.f1 = y.f1) (s31_iff x y).symm
end Go.Proofs.YtkgafkoopefghaaGreatDoor.PA
end
section
set_option linter.unusedVariables false
set_option linter.unusedSimpArgs false
namespace Go.Proofs.YtkgafkoopefghaaGreatDoor.PA
open Go.RowKit Go.Maps Go.WideMaps Go.Proofs.YtkgafkoopefghaaGreatDoor.Hk Go.Proofs.YtkgafkoopefghaaGreatDoorW.PrintWords
theorem two_un {a b : Int} {x y : List Int} (ha : 0 ≤ a ∧ a < 65536) (hb : 0 ≤ b ∧ b < 65536) (h : [a / 256 % 256, a % 256] ++ x = [b / 256 % 256, b % 256] ++ y) : a = b ∧ x = y := by
  simp only [List.cons_append, List.nil_append, List.cons.injEq] at h
  exact ⟨by omega, h.2.2⟩
theorem one_un {a b : Int} {x y : List Int} (ha : 0 ≤ a ∧ a < 256) (hb : 0 ≤ b ∧ b < 256) (h : [a % 256] ++ x = [b % 256] ++ y) : a = b ∧ x = y := by
  simp only [List.cons_append, List.nil_append, List.cons.injEq] at h
  exact ⟨by omega, h.2⟩
theorem bytes_un {s t : ByteArray} (h : bytesOf s = bytesOf t) : s = t := by
  unfold bytesOf at h
  have h2 : s.data.toList = t.data.toList := by
    have hf : Function.Injective (fun b : UInt8 => (b.toNat : Int)) := fun a b hab => UInt8.toNat_inj.1 (by have h : (a.toNat : Int) = (b.toNat : Int) := hab; omega)
    exact (List.map_inj_right (fun a b hab => hf hab)).1 h
  exact byt_inj h2
theorem txt_un {s t : ByteArray} {x y : List Int} (hs : s.size < 65536) (ht : t.size < 65536) (h : txtC s ++ x = txtC t ++ y) : s = t ∧ x = y := by
  unfold txtC at h
  rw [List.append_assoc, List.append_assoc] at h
  obtain ⟨h1, h2⟩ := two_un (by omega) (by omega) h
  have h3 : s.size = t.size := by omega
  obtain ⟨h4, h5⟩ := List.append_inj h2 (by rw [bytesOf_length, bytesOf_length, h3])
  exact ⟨bytes_un h4, h5⟩
theorem flat_un {α : Type} {f : α → List Int} {ok : α → Prop} (hf : ∀ a b x y, ok a → ok b → f a ++ x = f b ++ y → a = b ∧ x = y) : ∀ {l m : List α} {x y : List Int}, l.length = m.length → (∀ a, a ∈ l → ok a) → (∀ a, a ∈ m → ok a) → l.flatMap f ++ x = m.flatMap f ++ y → l = m ∧ x = y
  | [], [], x, y, _, _, _, h => ⟨rfl, h⟩
  | a :: l, b :: m, x, y, hl, ha, hb, h => by
    rw [List.flatMap_cons, List.flatMap_cons, List.append_assoc, List.append_assoc] at h
    obtain ⟨rfl, h2⟩ := hf a b _ _ (ha a (by simp)) (hb b (by simp)) h
    obtain ⟨h3, h4⟩ := flat_un hf (by simpa using hl) (fun c hc => ha c (by simp [hc])) (fun c hc => hb c (by simp [hc])) h2
    exact ⟨by rw [h3], h4⟩
  | [], _ :: _, _, _, hl, _, _, _ => by simp at hl
  | _ :: _, [], _, _, hl, _, _, _ => by simp at hl
def okPar (p : S31) : Prop := p.f0.size < 65536 ∧ p.f1.size < 65536
theorem par_un (a b : S31) (x y : List Int) (ha : okPar a) (hb : okPar b) (h : parC a ++ x = parC b ++ y) : a = b ∧ x = y := by
  unfold parC at h
  rw [List.append_assoc, List.append_assoc] at h
  obtain ⟨h1, h2⟩ := txt_un ha.1 hb.1 h
  obtain ⟨h3, h4⟩ := txt_un ha.2 hb.2 h2
  exact ⟨by cases a; cases b; simp only at h1 h3; rw [h1, h3], h4⟩
theorem ty_un {s t : ByteArray} (hs : 0 ≤ tyC s) (h : tyC s = tyC t) : s = t := by
  have key : ∀ u : ByteArray, 0 ≤ tyC u → (tyC u = 0 ∧ u.toList = ([102, 105, 108, 101] : List UInt8)) ∨ (tyC u = 1 ∧ u.toList = ([97, 99, 99, 111, 117, 110, 116] : List UInt8)) ∨ (tyC u = 2 ∧ u.toList = ([103, 114, 111, 117, 112] : List UInt8)) ∨ (tyC u = 3 ∧ u.toList = ([112, 97, 99, 107, 97, 103, 101] : List UInt8)) ∨ (tyC u = 4 ∧ u.toList = ([115, 101, 114, 118, 105, 99, 101] : List UInt8)) := by
    intro u hu
    unfold tyC at hu ⊢
    by_cases c0 : u.toList = ([102, 105, 108, 101] : List UInt8)
    · rw [if_pos c0]; exact .inl ⟨rfl, c0⟩
    rw [if_neg c0] at hu ⊢
    by_cases c1 : u.toList = ([97, 99, 99, 111, 117, 110, 116] : List UInt8)
    · rw [if_pos c1]; exact .inr (.inl ⟨rfl, c1⟩)
    rw [if_neg c1] at hu ⊢
    by_cases c2 : u.toList = ([103, 114, 111, 117, 112] : List UInt8)
    · rw [if_pos c2]; exact .inr (.inr (.inl ⟨rfl, c2⟩))
    rw [if_neg c2] at hu ⊢
    by_cases c3 : u.toList = ([112, 97, 99, 107, 97, 103, 101] : List UInt8)
    · rw [if_pos c3]; exact .inr (.inr (.inr (.inl ⟨rfl, c3⟩)))
    rw [if_neg c3] at hu ⊢
    by_cases c4 : u.toList = ([115, 101, 114, 118, 105, 99, 101] : List UInt8)
    · rw [if_pos c4]; exact .inr (.inr (.inr (.inr ⟨rfl, c4⟩)))
    rw [if_neg c4] at hu
    omega
  have k1 := key s hs
  have k2 := key t (by omega)
  apply toList_inj
  rcases k1 with ⟨e, q⟩ | ⟨e, q⟩ | ⟨e, q⟩ | ⟨e, q⟩ | ⟨e, q⟩ <;> rcases k2 with ⟨e2, q2⟩ | ⟨e2, q2⟩ | ⟨e2, q2⟩ | ⟨e2, q2⟩ | ⟨e2, q2⟩ <;> first | (rw [q, q2]; done) | (exfalso; omega)
def okRs (r : S24) : Prop := 0 ≤ tyC r.f0 ∧ r.f1.size < 65536 ∧ r.f2.length < 256 ∧ ∀ p, p ∈ r.f2 → okPar p
theorem res_un (a b : S24) (x y : List Int) (ha : okRs a) (hb : okRs b) (h : resC a ++ x = resC b ++ y) : a = b ∧ x = y := by
  unfold resC at h
  simp only [List.append_assoc] at h
  have ra := tyC_range a.f0
  have rb := tyC_range b.f0
  obtain ⟨h1, h2⟩ := one_un (by have := ha.1; omega) (by have := hb.1; omega) h
  obtain ⟨h3, h4⟩ := txt_un ha.2.1 hb.2.1 h2
  obtain ⟨h5, h6⟩ := one_un (by have := ha.2.2.1; omega) (by have := hb.2.2.1; omega) h4
  obtain ⟨h7, h8⟩ := flat_un par_un (by omega) ha.2.2.2 hb.2.2.2 h6
  have h9 : a.f0 = b.f0 := ty_un ha.1 (by omega)
  exact ⟨by cases a; cases b; simp only at h9 h3 h7; rw [h9, h3, h7], h8⟩
def okEd (x : S50) : Prop := 0 ≤ x.f0 ∧ x.f0 < 256 ∧ 0 ≤ x.f1 ∧ x.f1 < 256
theorem edge_un (a b : S50) (x y : List Int) (ha : okEd a) (hb : okEd b) (h : edgeC a ++ x = edgeC b ++ y) : a = b ∧ x = y := by
  unfold edgeC at h
  simp only [List.cons_append, List.nil_append, List.cons.injEq] at h
  obtain ⟨h1, h2, h3, h4⟩ := h
  obtain ⟨a0, a1, a2, a3⟩ := ha
  obtain ⟨b0, b1, b2, b3⟩ := hb
  have e0 : a.f0 = b.f0 := by omega
  have e1 : a.f1 = b.f1 := by omega
  have e2 : a.f2 = b.f2 := by
    cases p : a.f2 <;> cases q : b.f2 <;> rw [p, q] at h3 <;> first | rfl | (simp at h3)
  exact ⟨by cases a; cases b; simp only at e0 e1 e2; rw [e0, e1, e2], h4⟩
section
variable {v : Int} {node : ByteArray} {R : List S24} {E : List S50}
theorem ty_shape {kind : ByteArray} {x : ByteArray × List (ByteArray × List (ByteArray × RuleD))} (h : shapesD kind = some x) : 0 ≤ tyC kind := by
  unfold shapesD at h
  by_cases c0 : kind = ⟨#[102, 105, 108, 101]⟩
  · subst c0; decide +kernel
  by_cases c1 : kind = ⟨#[97, 99, 99, 111, 117, 110, 116]⟩
  · subst c1; decide +kernel
  by_cases c2 : kind = ⟨#[103, 114, 111, 117, 112]⟩
  · subst c2; decide +kernel
  by_cases c3 : kind = ⟨#[112, 97, 99, 107, 97, 103, 101]⟩
  · subst c3; decide +kernel
  by_cases c4 : kind = ⟨#[115, 101, 114, 118, 105, 99, 101]⟩
  · subst c4; decide +kernel
  rw [if_neg c0, if_neg c1, if_neg c2, if_neg c3, if_neg c4] at h
  cases h
theorem len_mem {α : Type} {f : α → List Int} {l : List α} {a : α} (h : a ∈ l) : (f a).length ≤ (l.flatMap f).length := by
  obtain ⟨i, hi, rfl⟩ := List.mem_iff_getElem.1 h
  have := flat_len (f := f) hi
  omega
theorem bytesC_len : (bytesC v node R E).length = 6 + node.size + (R.flatMap resC).length + (E.flatMap edgeC).length := by
  unfold bytesC
  simp only [List.length_append, List.length_cons, List.length_nil, txtC_len]
  omega
theorem resC_len (r : S24) : (resC r).length = 4 + r.f1.size + (r.f2.flatMap parC).length := by
  unfold resC
  simp only [List.length_append, List.length_cons, List.length_nil, txtC_len]
  omega
theorem parC_len (p : S31) : (parC p).length = 4 + p.f0.size + p.f1.size := by
  unfold parC
  rw [List.length_append, txtC_len, txtC_len]
  omega
theorem ok_res (h : checkC v node R E = 0) {r : S24} (hr : r ∈ R) : okRs r := by
  obtain ⟨h1, h2, h3, h4, h5, h6, h7, h8⟩ := checkC_zero h
  obtain ⟨i, hi, rfl⟩ := List.mem_iff_getElem.1 hr
  obtain ⟨q1, q2, _⟩ := stepC_none (h6 i hi)
  rw [rd24_at hi] at q1 q2
  obtain ⟨first, specs, rs, s1, _, _, _⟩ := fullS_ok q1
  have hl := full_few q1
  rw [eqP_len q2] at hl
  rw [bytesC_len] at h8
  have l1 := len_mem (f := resC) hr
  rw [resC_len] at l1
  refine ⟨ty_shape s1, by omega, by omega, fun p hp => ?_⟩
  have l2 := len_mem (f := parC) hp
  rw [parC_len] at l2
  exact ⟨by omega, by omega⟩
theorem ok_edge (h : checkC v node R E = 0) {x : S50} (hx : x ∈ E) : okEd x := by
  obtain ⟨h1, h2, h3, h4, h5, h6, h7, h8⟩ := checkC_zero h
  obtain ⟨i, hi, rfl⟩ := List.mem_iff_getElem.1 hx
  have q := h7 i hi
  unfold edgeOk at q
  rw [rd50_at hi] at q
  by_cases c1 : mn E[i].f0 E[i].f1 < 0
  · rw [if_pos c1] at q; cases q
  rw [if_neg c1] at q
  by_cases c2 : mx E[i].f0 E[i].f1 ≥ (R.length : Int)
  · rw [if_pos c2] at q; cases q
  unfold mn at c1
  unfold mx at c2
  refine ⟨?_, ?_, ?_, ?_⟩ <;> (split at c1 <;> split at c2 <;> omega)
theorem node_len (h : checkC v node R E = 0) : node.size < 65536 := by
  have h8 := (checkC_zero h).2.2.2.2.2.2.2
  rw [bytesC_len] at h8
  omega
theorem bytesC_un {v' : Int} {node' : ByteArray} {R' : List S24} {E' : List S50} {x y : List Int} (h : checkC v node R E = 0) (h' : checkC v' node' R' E' = 0) (e : bytesC v node R E ++ x = bytesC v' node' R' E' ++ y) : v = v' ∧ node = node' ∧ R = R' ∧ E = E' ∧ x = y := by
  have z := checkC_zero h
  have z' := checkC_zero h'
  unfold bytesC at e
  simp only [List.append_assoc] at e
  obtain ⟨e1, e⟩ := two_un ⟨z.1, z.2.1⟩ ⟨z'.1, z'.2.1⟩ e
  obtain ⟨e2, e⟩ := txt_un (node_len h) (node_len h') e
  obtain ⟨e3, e⟩ := one_un (by have := z.2.2.2.1; omega) (by have := z'.2.2.2.1; omega) e
  obtain ⟨e4, e⟩ := flat_un res_un (by omega) (fun r hr => ok_res h hr) (fun r hr => ok_res h' hr) e
  obtain ⟨e5, e⟩ := one_un (by have := z.2.2.2.2.1; omega) (by have := z'.2.2.2.2.1; omega) e
  obtain ⟨e6, e⟩ := flat_un edge_un (by omega) (fun r hr => ok_edge h hr) (fun r hr => ok_edge h' hr) e
  exact ⟨e1, e2, e4, e6, e⟩
end
def inB (xs : List Int) : Prop := ∀ x, x ∈ xs → 0 ≤ x ∧ x < 256
theorem inB_app {a b : List Int} (ha : inB a) (hb : inB b) : inB (a ++ b) := fun x hx => by
  rcases List.mem_append.1 hx with h | h
  · exact ha x h
  · exact hb x h
theorem inB_flat {α : Type} {f : α → List Int} (hf : ∀ a, inB (f a)) (l : List α) : inB (l.flatMap f) := fun x hx => by
  obtain ⟨a, _, h⟩ := List.mem_flatMap.1 hx
  exact hf a x h
theorem inB_mod (a : Int) : inB [a % 256] := fun x hx => by
  have : x = a % 256 := by simpa using hx
  omega
theorem inB_two (a b : Int) : inB [a % 256, b % 256] := inB_app (inB_mod a) (inB_mod b)
theorem inB_bytes (s : ByteArray) : inB (bytesOf s) := fun x hx => by
  unfold bytesOf at hx
  obtain ⟨b, _, rfl⟩ := List.mem_map.1 hx
  have := b.toNat_lt
  exact ⟨by omega, by omega⟩
theorem inB_txt (s : ByteArray) : inB (txtC s) := inB_app (inB_two _ _) (inB_bytes s)
theorem inB_par (p : S31) : inB (parC p) := inB_app (inB_txt _) (inB_txt _)
theorem inB_res (r : S24) : inB (resC r) := inB_app (inB_app (inB_app (inB_mod _) (inB_txt _)) (inB_mod _)) (inB_flat inB_par _)
theorem inB_edge (x : S50) : inB (edgeC x) := by
  unfold edgeC
  refine inB_app (a := [x.f0 % 256, x.f1 % 256]) (inB_two _ _) (fun y hy => ?_)
  have : y = if x.f2 = true then 1 else 0 := by simpa using hy
  rw [this]
  split <;> decide
theorem inB_cat (v : Int) (node : ByteArray) (R : List S24) (E : List S50) : inB (bytesC v node R E) := inB_app (inB_app (inB_app (inB_app (inB_app (inB_two _ _) (inB_txt _)) (inB_mod _)) (inB_flat inB_res _)) (inB_mod _)) (inB_flat inB_edge _)
theorem nums_inj : ∀ {a b : List Int}, inB a → inB b → (a.map fun n => UInt8.ofNat n.toNat) = (b.map fun n => UInt8.ofNat n.toNat) → a = b
  | [], [], _, _, _ => rfl
  | x :: a, y :: b, ha, hb, h => by
    rw [List.map_cons, List.map_cons, List.cons.injEq] at h
    have hx := ha x (by simp)
    have hy := hb y (by simp)
    have h1 : x.toNat % 256 = y.toNat % 256 := by
      have := congrArg UInt8.toNat h.1
      simpa [UInt8.toNat_ofNat'] using this
    rw [nums_inj (fun z hz => ha z (by simp [hz])) (fun z hz => hb z (by simp [hz])) h.2, show x = y from by omega]
  | [], _ :: _, _, _, h => by simp at h
  | _ :: _, [], _, _, h => by simp at h
theorem str_iff {a b : List Int} (ha : inB a) (hb : inB b) : (strOfNums a).toList = (strOfNums b).toList ↔ a = b := by
  constructor
  · intro h
    rw [toList_eq, toList_eq] at h
    exact nums_inj ha hb h
  · exact fun h => by rw [h]
end Go.Proofs.YtkgafkoopefghaaGreatDoor.PA
end
