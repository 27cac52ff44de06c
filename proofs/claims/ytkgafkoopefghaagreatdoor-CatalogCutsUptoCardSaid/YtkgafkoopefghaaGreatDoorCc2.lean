/- A part of this law; its conditions stand in the last text. -/
import Derived.Test.YtkgafkoopefghaaGreatDoorRows
import Derived.Test.YtkgafkoopefghaaGreatDoorCc1
import Derived.Deep.Slices
import Derived.ChangeArms
import Derived.ChangeShapes
import Derived.WideShapes
section
set_option linter.unusedVariables false
namespace Go.Proofs.YtkgafkoopefghaaGreatDoor.Rd
open Go.ChangeShapes Go.WideShapes Go.RowKit Go.Proofs.YtkgafkoopefghaaGreatDoorW.PrintWords
def Rd (P : Program) {α : Type} (t : TypeId) (d : Kd α) (ok : α → Nat → Prop) : Prop :=
  ∀ (H : Type) (enc : TypeId × Value → H) (W : World) (fuel : Nat) (cs : List Value) (x : DataW H × List MemPlace), DataW.trod enc P W 0 (fun _ => true) true fuel t cs = some x → ∃ a, d.K W a cs ∧ ok a (Rows.uptoBulk x.1)
theorem rd_string {P : Program} {t : TypeId} (ht : P.underlying t = some .string) : Rd P t Kd.string (fun s b => s.size + 1 = b) := by
  intro H enc W fuel cs x h
  obtain ⟨s, rfl, rfl, _⟩ := DataW.trod_string ht h
  refine ⟨s, rfl, ?_⟩
  simp only [Rows.uptoBulk]
  rw [ByteArray.size, Array.length_toList]
theorem rd_int {P : Program} {t : TypeId} {k : IntKind} (ht : P.underlying t = some (.int k)) : Rd P t (Kd.int k) (fun n b => (Lit.int k n).wf = true ∧ 1 = b) := by
  intro H enc W fuel cs x h
  obtain ⟨n, rfl, rfl, hw⟩ := DataW.trod_int ht h
  exact ⟨n, rfl, hw, by simp [Rows.uptoBulk]⟩
theorem rd_bool {P : Program} {t : TypeId} (ht : P.underlying t = some .bool) : Rd P t Kd.bool (fun _ b => 1 = b) := by
  intro H enc W fuel cs x h
  obtain ⟨b, rfl, rfl⟩ := DataW.trod_bool ht h
  exact ⟨b, rfl, by simp [Rows.uptoBulk]⟩
theorem rd_iso {P : Program} {t : TypeId} {α β : Type} {d : Kd α} {ok : α → Nat → Prop} (r : Rd P t d ok) (f : β → α) (g : α → β) (hfg : ∀ a, f (g a) = a) : Rd P t (Kd.iso d f) (fun b n => ok (f b) n) := by
  intro H enc W fuel cs x h
  obtain ⟨a, h1, h2⟩ := r H enc W fuel cs x h
  refine ⟨g a, ?_, ?_⟩
  · show d.K W (f (g a)) cs
    rw [hfg]; exact h1
  · show ok (f (g a)) _
    rw [hfg]; exact h2
theorem bulkAll_nil {H : Type} : Rows.uptoBulkAll ([] : List (DataW H)) = 0 := by simp [Rows.uptoBulkAll]
theorem bulkAll_cons {H : Type} (d : DataW H) (r : List (DataW H)) : Rows.uptoBulkAll (d :: r) = Rows.uptoBulk d + Rows.uptoBulkAll r := by simp [Rows.uptoBulkAll]
theorem bulk_agg {H : Type} (l : List (DataW H)) : Rows.uptoBulk (.agg l) = Rows.uptoBulkAll l + 1 := by simp [Rows.uptoBulk]
theorem rd_struct2 {P : Program} {t : TypeId} {α β : Type} {f0 f1 : Field} {d0 : Kd α} {d1 : Kd β} {k0 : α → Nat → Prop} {k1 : β → Nat → Prop} (hs : P.underlying t = some (.struct #[f0, f1])) (hC : P.cellsOf t = d0.sz + d1.sz) (o0 : f0.offset = 0) (c0 : P.cellsOf f0.type = d0.sz) (o1 : f1.offset = d0.sz) (c1 : P.cellsOf f1.type = d1.sz)
    (r0 : Rd P f0.type d0 k0) (r1 : Rd P f1.type d1 k1) : Rd P t (Kd.pair d0 d1) (fun x b => ∃ b0 b1, k0 x.1 b0 ∧ k1 x.2 b1 ∧ b = b0 + b1 + 1) := by
  intro H enc W fuel cs x h
  obtain ⟨xs, n, _, hx, hlen, hxl, hf⟩ := DataW.trod_struct hs h
  match xs, hxl with
  | [y0, y1], _ =>
    have h0 := hf 0 f0 rfl
    have h1 := hf 1 f1 rfl
    rw [o0, c0] at h0
    rw [o1, c1] at h1
    obtain ⟨a0, p0, q0⟩ := r0 H enc W n _ _ h0
    obtain ⟨a1, p1, q1⟩ := r1 H enc W n _ _ h1
    refine ⟨(a0, a1), ⟨_, _, ?_, p0, p1⟩, _, _, q0, q1, ?_⟩
    · rw [hC] at hlen
      rw [List.drop_zero, List.take_of_length_le (l := cs.drop d0.sz) (by rw [List.length_drop]; omega), List.take_append_drop]
    · rw [hx]
      simp only [List.map_cons, List.map_nil]
      rw [bulk_agg, bulkAll_cons, bulkAll_cons, bulkAll_nil]; omega
theorem rd_struct3 {P : Program} {t : TypeId} {α β γ : Type} {f0 f1 f2 : Field} {d0 : Kd α} {d1 : Kd β} {d2 : Kd γ} {k0 : α → Nat → Prop} {k1 : β → Nat → Prop} {k2 : γ → Nat → Prop} (hs : P.underlying t = some (.struct #[f0, f1, f2])) (hC : P.cellsOf t = d0.sz + (d1.sz + d2.sz)) (o0 : f0.offset = 0) (c0 : P.cellsOf f0.type = d0.sz) (o1 : f1.offset = d0.sz) (c1 : P.cellsOf f1.type = d1.sz) (o2 : f2.offset = d0.sz + d1.sz) (c2 : P.cellsOf f2.type = d2.sz)
    (r0 : Rd P f0.type d0 k0) (r1 : Rd P f1.type d1 k1) (r2 : Rd P f2.type d2 k2) : Rd P t (Kd.pair d0 (Kd.pair d1 d2)) (fun x b => ∃ b0 b1 b2, k0 x.1 b0 ∧ k1 x.2.1 b1 ∧ k2 x.2.2 b2 ∧ b = b0 + b1 + b2 + 1) := by
  intro H enc W fuel cs x h
  obtain ⟨xs, n, _, hx, hlen, hxl, hf⟩ := DataW.trod_struct hs h
  match xs, hxl with
  | [y0, y1, y2], _ =>
    have h0 := hf 0 f0 rfl
    have h1 := hf 1 f1 rfl
    have h2 := hf 2 f2 rfl
    rw [o0, c0] at h0
    rw [o1, c1] at h1
    rw [o2, c2] at h2
    obtain ⟨a0, p0, q0⟩ := r0 H enc W n _ _ h0
    obtain ⟨a1, p1, q1⟩ := r1 H enc W n _ _ h1
    obtain ⟨a2, p2, q2⟩ := r2 H enc W n _ _ h2
    refine ⟨(a0, a1, a2), ⟨_, _, ?_, p0, _, _, rfl, p1, p2⟩, _, _, _, q0, q1, q2, ?_⟩
    · rw [hC] at hlen
      rw [List.drop_zero, List.take_of_length_le (l := cs.drop (d0.sz + d1.sz)) (by rw [List.length_drop]; omega), ← List.drop_drop, List.take_append_drop, List.take_append_drop]
    · rw [hx]
      simp only [List.map_cons, List.map_nil]
      rw [bulk_agg, bulkAll_cons, bulkAll_cons, bulkAll_cons, bulkAll_nil]; omega
theorem rd_struct4 {P : Program} {t : TypeId} {α β γ δ : Type} {f0 f1 f2 f3 : Field} {d0 : Kd α} {d1 : Kd β} {d2 : Kd γ} {d3 : Kd δ} {k0 : α → Nat → Prop} {k1 : β → Nat → Prop} {k2 : γ → Nat → Prop} {k3 : δ → Nat → Prop} (hs : P.underlying t = some (.struct #[f0, f1, f2, f3])) (hC : P.cellsOf t = d0.sz + (d1.sz + (d2.sz + d3.sz))) (o0 : f0.offset = 0) (c0 : P.cellsOf f0.type = d0.sz) (o1 : f1.offset = d0.sz) (c1 : P.cellsOf f1.type = d1.sz) (o2 : f2.offset = d0.sz + d1.sz) (c2 : P.cellsOf f2.type = d2.sz) (o3 : f3.offset = d0.sz + d1.sz + d2.sz) (c3 : P.cellsOf f3.type = d3.sz)
    (r0 : Rd P f0.type d0 k0) (r1 : Rd P f1.type d1 k1) (r2 : Rd P f2.type d2 k2) (r3 : Rd P f3.type d3 k3) : Rd P t (Kd.pair d0 (Kd.pair d1 (Kd.pair d2 d3))) (fun x b => ∃ b0 b1 b2 b3, k0 x.1 b0 ∧ k1 x.2.1 b1 ∧ k2 x.2.2.1 b2 ∧ k3 x.2.2.2 b3 ∧ b = b0 + b1 + b2 + b3 + 1) := by
  intro H enc W fuel cs x h
  obtain ⟨xs, n, _, hx, hlen, hxl, hf⟩ := DataW.trod_struct hs h
  match xs, hxl with
  | [y0, y1, y2, y3], _ =>
    have h0 := hf 0 f0 rfl
    have h1 := hf 1 f1 rfl
    have h2 := hf 2 f2 rfl
    have h3 := hf 3 f3 rfl
    rw [o0, c0] at h0
    rw [o1, c1] at h1
    rw [o2, c2] at h2
    rw [o3, c3] at h3
    obtain ⟨a0, p0, q0⟩ := r0 H enc W n _ _ h0
    obtain ⟨a1, p1, q1⟩ := r1 H enc W n _ _ h1
    obtain ⟨a2, p2, q2⟩ := r2 H enc W n _ _ h2
    obtain ⟨a3, p3, q3⟩ := r3 H enc W n _ _ h3
    refine ⟨(a0, a1, a2, a3), ⟨_, _, ?_, p0, _, _, rfl, p1, _, _, rfl, p2, p3⟩, _, _, _, _, q0, q1, q2, q3, ?_⟩
    · rw [hC] at hlen
      rw [List.drop_zero, List.take_of_length_le (l := cs.drop (d0.sz + d1.sz + d2.sz)) (by rw [List.length_drop]; omega), ← List.drop_drop (i := d2.sz), List.take_append_drop, ← List.drop_drop, List.take_append_drop, List.take_append_drop]
    · rw [hx]
      simp only [List.map_cons, List.map_nil]
      rw [bulk_agg, bulkAll_cons, bulkAll_cons, bulkAll_cons, bulkAll_cons, bulkAll_nil]; omega
theorem list_of {α : Type} {p : Nat → α → Prop} : ∀ (n : Nat), (∀ i, i < n → ∃ a, p i a) → ∃ l : List α, l.length = n ∧ ∀ i a, l[i]? = some a → p i a
  | 0, _ => ⟨[], rfl, fun i a h => by simp at h⟩
  | n + 1, h => by
    obtain ⟨l, hl, hp⟩ := list_of n (fun i hi => h i (by omega))
    obtain ⟨a, ha⟩ := h n (by omega)
    refine ⟨l ++ [a], by simp [hl], fun i x hx => ?_⟩
    by_cases c : i < n
    · rw [List.getElem?_append_left (by omega)] at hx
      exact hp i x hx
    · rw [List.getElem?_append_right (by omega)] at hx
      have : i = n := by
        have h2 := (List.getElem?_eq_some_iff.1 hx).1
        simp at h2
        omega
      subst this
      rw [hl, Nat.sub_self] at hx
      cases hx
      exact ha
theorem bulkAll_range {H : Type} (D : Nat → DataW H) (n : Nat) : Rows.uptoBulkAll ((List.range n).map D) = ((List.range n).map (fun i => Rows.uptoBulk (D i))).sum := by
  have : ∀ l : List Nat, Rows.uptoBulkAll (l.map D) = (l.map (fun i => Rows.uptoBulk (D i))).sum := by
    intro l
    induction l with
    | nil => simp [Rows.uptoBulkAll]
    | cons a l ih => rw [List.map_cons, bulkAll_cons, ih]; simp
  exact this _
def okL {α : Type} (ok : α → Nat → Prop) (xs : List α) (b : Nat) : Prop := ∃ bs : List Nat, bs.length = xs.length ∧ (∀ (i : Nat) (x : α) (y : Nat), xs[i]? = some x → bs[i]? = some y → ok x y) ∧ bs.sum + 1 ≤ b
theorem rd_slice {P : Program} {t e : TypeId} {α : Type} {d : Kd α} {ok : α → Nat → Prop} (ht : P.underlying t = some (.slice e)) (he : P.cellsOf e = d.sz) (r : Rd P e d ok) : Rd P t (Kd.slice e d) (okL ok) := by
  intro H enc W fuel cs x h
  rcases Go.Deep.open_slice ht h with ⟨rfl, rfl⟩ | ⟨a, len, cap, m, n, D, Pl, rfl, _, hl, hm, hmm, hx, hi⟩
  · refine ⟨[], ⟨none, 0, rfl, Nat.le_refl _, rfl, by simp, fun h => by simp at h⟩, [], rfl, fun i x y h => by simp at h, ?_⟩
    simp [Rows.uptoBulk]
  · have hmc : m = cap := by simpa using hmm
    obtain ⟨xs, hxl, hxs⟩ := list_of (p := fun i (y : α) => (∃ cs', W.cells? 0 (a.add (i * P.cellsOf e)) (P.cellsOf e) = some cs' ∧ d.K W y cs') ∧ ok y (Rows.uptoBulk (D i))) len (fun i hlt => by
      obtain ⟨cs', h1, h2⟩ := hi i (by omega)
      obtain ⟨y, h3, h4⟩ := r H enc W n cs' _ h2
      exact ⟨y, ⟨cs', h1, h3⟩, h4⟩)
    refine ⟨xs, ⟨some a, cap, by rw [hxl], by omega, rfl, by rw [hxl]; unfold maxLen at hm; omega, fun _ => ⟨a, rfl, fun j p hp => ?_⟩⟩, (List.range len).map (fun i => Rows.uptoBulk (D i)), by simp [hxl], fun i y z hy hz => ?_, ?_⟩
    · obtain ⟨⟨cs', h1, h2⟩, _⟩ := hxs j p hp
      obtain ⟨_, hcl, hat⟩ := World.cells?_some h1
      refine ⟨cs', by rw [hcl, he], h2, fun i u hu => ?_⟩
      have hlt : i < P.cellsOf e := by
        have := (List.getElem?_eq_some_iff.1 hu).1
        omega
      rw [← he, ← Go.Deep.add_add, hat i hlt, hu]
    · have h1 := (hxs i y hy).2
      rw [List.getElem?_map] at hz
      have hlt : i < len := by have := (List.getElem?_eq_some_iff.1 hy).1; omega
      rw [List.getElem?_range hlt] at hz
      cases hz
      exact h1
    · rw [hx]
      have : Rows.uptoBulk (.slice ((List.range len).map D) ((List.range (m - len)).map fun j => D (len + j))) = Rows.uptoBulkAll ((List.range len).map D) + Rows.uptoBulkAll ((List.range (m - len)).map fun j => D (len + j)) + 1 := by simp [Rows.uptoBulk]
      rw [this, bulkAll_range]
      omega
theorem le_sum : ∀ {l : List Nat} {i y : Nat}, l[i]? = some y → y ≤ l.sum
  | [], i, y, h => by simp at h
  | a :: l, 0, y, h => by
    have : a = y := by simpa using h
    simp; omega
  | a :: l, i + 1, y, h => by
    have := le_sum (l := l) (i := i) (y := y) (by simpa using h)
    simp; omega
theorem okL_at {α : Type} {ok : α → Nat → Prop} {xs : List α} {b : Nat} (h : okL ok xs b) {x : α} (hx : x ∈ xs) : ∃ y, ok x y ∧ y < b := by
  obtain ⟨bs, hl, ho, hb⟩ := h
  obtain ⟨i, hi, rfl⟩ := List.mem_iff_getElem.1 hx
  have h1 : bs[i]? = some (bs[i]'(by omega)) := List.getElem?_eq_getElem (by omega)
  have h2 := le_sum h1
  exact ⟨_, ho i _ _ (List.getElem?_eq_getElem hi) h1, by omega⟩
theorem okL_len {α : Type} {ok : α → Nat → Prop} (hok : ∀ x y, ok x y → 1 ≤ y) {xs : List α} {b : Nat} (h : okL ok xs b) : xs.length < b := by
  obtain ⟨bs, hl, ho, hb⟩ := h
  have : ∀ (bs : List Nat) (xs : List α), bs.length = xs.length → (∀ (i : Nat) (x : α) (y : Nat), xs[i]? = some x → bs[i]? = some y → ok x y) → xs.length ≤ bs.sum := by
    intro bs
    induction bs with
    | nil => intro xs h _; rw [← h]; simp
    | cons b bs ih =>
      intro xs h ho
      cases xs with
      | nil => simp
      | cons x xs =>
        have h1 := hok x b (ho 0 x b rfl rfl)
        have h2 := ih xs (by simpa using h) (fun i x y hx hy => ho (i + 1) x y (by simpa using hx) (by simpa using hy))
        simp; omega
  have := this bs xs hl ho
  omega
end Go.Proofs.YtkgafkoopefghaaGreatDoor.Rd
end
