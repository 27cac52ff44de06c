/- A part of this law; its conditions stand in the last text. -/
import Derived.Test.YtkgafkoopefghaaGreatDoorCc7
import Derived.Test.YtkgafkoopefghaaGreatDoorCc33
section
set_option linter.unusedVariables false
namespace Go.Proofs.YtkgafkoopefghaaGreatDoor.Rd
open Go.ChangeShapes Go.WideShapes Go.RowKit Go.Proofs.YtkgafkoopefghaaGreatDoorW.PrintWords Go.Proofs.YtkgafkoopefghaaGreatDoor.PA Go.Shelf
theorem okL_sum {α : Type} {ok : α → Nat → Prop} {f : α → List Int} (hf : ∀ x y, ok x y → (f x).length ≤ 2 * y) {xs : List α} {b : Nat} (h : okL ok xs b) : (xs.flatMap f).length + 2 ≤ 2 * b := by
  obtain ⟨bs, hl, ho, hb⟩ := h
  have : ∀ (bs : List Nat) (xs : List α), bs.length = xs.length → (∀ (i : Nat) (x : α) (y : Nat), xs[i]? = some x → bs[i]? = some y → ok x y) → (xs.flatMap f).length ≤ 2 * bs.sum := by
    intro bs
    induction bs with
    | nil =>
      intro xs h _
      cases xs with
      | nil => simp
      | cons x xs => simp at h
    | cons b bs ih =>
      intro xs h ho
      cases xs with
      | nil => simp at h
      | cons x xs =>
        have h1 := hf x b (ho 0 x b rfl rfl)
        have h2 := ih xs (by simpa using h) (fun i x y hx hy => ho (i + 1) x y (by simpa using hx) (by simpa using hy))
        rw [List.flatMap_cons, List.length_append, List.sum_cons]
        omega
  have := this bs xs hl ho
  omega
theorem par_len (x : S31) (b : Nat) (h : okParam x b) : (parC x).length ≤ 2 * b := by
  unfold okParam at h
  unfold parC
  rw [List.length_append, txtC_len, txtC_len]
  omega
def okR (x : S24) (n : Nat) : Prop := okRes x.f0 x.f1 x.f2 n ∧ (resC x).length ≤ 2 * n
theorem rd_res2 : Rd Tryz.prog 24 k24 okR := by
  have h := rd_iso (rd_struct3 (d0 := Kd.string) (d1 := Kd.string) (d2 := Kd.slice 31 k31) Tryz.underlying24 (by kernel_rfl) rfl (by kernel_rfl) rfl (by kernel_rfl) rfl (by kernel_rfl) (rd_string Tryz.underlying9) (rd_string Tryz.underlying9) rd_params) (fun x : S24 => (x.f0, x.f1, x.f2)) (fun p => ⟨p.1, p.2.1, p.2.2⟩) (fun _ => rfl)
  intro H enc W fuel cs x hx
  obtain ⟨a, h1, b0, b1, b2, h2, h3, h4, h5⟩ := h H enc W fuel cs x hx
  have h2' : a.f0.size + 1 = b0 := h2
  have h3' : a.f1.size + 1 = b1 := h3
  have h4' : okL okParam a.f2 b2 := h4
  refine ⟨a, h1, ⟨by omega, by omega, ?_, fun p hp => ?_⟩, ?_⟩
  · have := okL_len (fun x y (h : okParam x y) => by unfold okParam at h; omega) h4'
    omega
  · obtain ⟨y, h6, h7⟩ := okL_at h4' hp
    unfold okParam at h6
    omega
  · have := okL_sum par_len h4'
    unfold resC
    simp only [List.length_append, List.length_cons, List.length_nil, txtC_len]
    omega
theorem rd_edge : Rd Tryz.prog 50 k50 (fun _ b => b = 4) := by
  have h := rd_iso (rd_struct3 (d0 := Kd.int .i64) (d1 := Kd.int .i64) (d2 := Kd.bool) Tryz.underlying50 (by kernel_rfl) rfl (by kernel_rfl) rfl (by kernel_rfl) rfl (by kernel_rfl) (rd_int Tryz.underlying3) (rd_int Tryz.underlying3) (rd_bool Tryz.underlying4)) (fun x : S50 => (x.f0, x.f1, x.f2)) (fun p => ⟨p.1, p.2.1, p.2.2⟩) (fun _ => rfl)
  intro H enc W fuel cs x hx
  obtain ⟨a, h1, b0, b1, b2, h2, h3, h4, h5⟩ := h H enc W fuel cs x hx
  have e2 : 1 = b2 := h4
  exact ⟨a, h1, by have := h2.2; have := h3.2; omega⟩
theorem edge_len (x : S50) (b : Nat) (h : b = 4) : (edgeC x).length ≤ 2 * b := by
  subst h
  unfold edgeC
  simp
def okCat (v : Int) (node : ByteArray) (R : List S24) (E : List S50) (n : Nat) : Prop := -9223372036854775808 ≤ v ∧ v ≤ 9223372036854775807 ∧ node.size < n ∧ R.length < n ∧ E.length < n ∧ (∀ x, x ∈ R → okRes x.f0 x.f1 x.f2 n) ∧ (bytesC v node R E).length ≤ 2 * n
theorem okRes_mono {a b : ByteArray} {l : List S31} {n m : Nat} (h : okRes a b l n) (hm : n ≤ m) : okRes a b l m := ⟨by have := h.1; omega, by have := h.2.1; omega, by have := h.2.2.1; omega, fun p hp => ⟨by have := (h.2.2.2 p hp).1; omega, by have := (h.2.2.2 p hp).2; omega⟩⟩
theorem wf_range {n : Int} (h : (Lit.int .i64 n).wf = true) : -9223372036854775808 ≤ n ∧ n ≤ 9223372036854775807 := wf_i64_range h
theorem rd_catalog : Rd Tryz.prog 37 (Kd.pair (Kd.int .i64) (Kd.pair Kd.string (Kd.pair (Kd.slice 24 k24) (Kd.slice 50 k50)))) (fun x n => okCat x.1 x.2.1 x.2.2.1 x.2.2.2 n) := by
  have h := rd_struct4 (d0 := Kd.int .i64) (d1 := Kd.string) (d2 := Kd.slice 24 k24) (d3 := Kd.slice 50 k50) Tryz.underlying37 (by kernel_rfl) rfl (by kernel_rfl) rfl (by kernel_rfl) rfl (by kernel_rfl) rfl (by kernel_rfl) (rd_int Tryz.underlying3) (rd_string Tryz.underlying9) (rd_slice Tryz.underlying34 (by kernel_rfl) rd_res2) (rd_slice Tryz.underlying35 (by kernel_rfl) rd_edge)
  intro H enc W fuel cs x hx
  obtain ⟨a, h1, b0, b1, b2, b3, h2, h3, h4, h5, h6⟩ := h H enc W fuel cs x hx
  have e1 := wf_range h2.1
  have e2 := h2.2
  refine ⟨a, h1, e1.1, e1.2, by omega, ?_, ?_, fun x hx => ?_, ?_⟩
  · have := okL_len (fun x y (h : okR x y) => by have := h.1.1; omega) h4
    omega
  · have := okL_len (fun x y (h : y = 4) => by omega) h5
    omega
  · obtain ⟨y, h6, h7⟩ := okL_at h4 hx
    exact okRes_mono h6.1 (by omega)
  · have s4 := okL_sum (f := resC) (fun x y (h : okR x y) => h.2) h4
    have s5 := okL_sum (f := edgeC) edge_len h5
    unfold bytesC
    simp only [List.length_append, List.length_cons, List.length_nil, txtC_len]
    omega
set_option maxRecDepth 100000 in
theorem open_catalog {H : Type} {enc : TypeId × Value → H} {W : World} {base : Nat} {v : Value} {d : DataW H} {p : List MemPlace} (hv : Value.okWide Tryz.prog W .any base 37 v) (h : DataW.Trod enc Tryz.prog W 0 (fun _ => true) true 37 v d p) :
    ∃ (x : Int) (s : ByteArray) (A : Option Addr) (c : Nat) (R : List S24) (B : Option Addr) (m : Nat) (E : List S50), v = .agg #[.int .i64 x, .string s, .slice A R.length c, .slice B E.length m] ∧ Kd.C k24 W A R.length R ∧ R.length ≤ c ∧ Kd.C k50 W B E.length E ∧ E.length ≤ m ∧ okCat x s R E (Rows.uptoBulk d) := by
  obtain ⟨fuel, hf⟩ := h
  obtain ⟨cs, rfl, _⟩ := okWide_struct Tryz.underlying37 hv
  obtain ⟨⟨x, s, R, E⟩, ⟨c0, c1, e, k0, c2, c3, rfl, k1, c4, c5, rfl, k2, k3⟩, hok⟩ := rd_catalog H enc W fuel _ _ hf
  obtain ⟨A, c, rfl, hl, hc⟩ := k2
  obtain ⟨B, m, rfl, hl2, hc2⟩ := k3
  have k0' : c0 = [.int .i64 x] := k0
  have k1' : c2 = [.string s] := k1
  subst k0' k1'
  refine ⟨x, s, A, c, R, B, m, E, ?_, hc, hl, hc2, hl2, hok⟩
  have e2 : cs.toList = [Value.int .i64 x, Value.string s, .slice A R.length c, .slice B E.length m] := e
  have e3 : cs = #[Value.int .i64 x, Value.string s, .slice A R.length c, .slice B E.length m] := by
    apply Array.ext'
    exact e2
  rw [e3]
theorem fit_cat {v : Int} {node : ByteArray} {R : List S24} {E : List S50} {n : Nat} (h : okCat v node R E n) (hn : n ≤ 1048576) : fitC v node R E = true := by
  obtain ⟨h1, h2, h3, h4, h5, h6, h7⟩ := h
  unfold fitC fitR
  simp only [Bool.and_eq_true, decide_eq_true_eq]
  refine ⟨⟨⟨by omega, by omega, List.all_eq_true.2 fun x hx => ?_⟩, by omega⟩, by omega⟩
  obtain ⟨a1, a2, a3, a4⟩ := h6 x hx
  simp only [Bool.and_eq_true, decide_eq_true_eq]
  refine ⟨⟨⟨by omega, by omega⟩, by omega⟩, List.all_eq_true.2 fun p hp => ?_⟩
  have := a4 p hp
  rw [Bool.and_eq_true, decide_eq_true_iff, decide_eq_true_iff]
  omega
end Go.Proofs.YtkgafkoopefghaaGreatDoor.Rd
end
section
set_option linter.unusedVariables false
namespace Go.Proofs.YtkgafkoopefghaaGreatDoor.Rd
open Go.ChangeShapes Go.WideShapes Go.RowKit Go.Proofs.YtkgafkoopefghaaGreatDoorW.PrintWords Go.Proofs.YtkgafkoopefghaaGreatDoor.PA Go.Shelf
theorem wf_u8 {n : Int} (h : (Lit.int .u8 n).wf = true) : 0 ≤ n ∧ n < 256 := by
  have h2 : IntKind.u8.min ≤ n ∧ n ≤ IntKind.u8.max := by simpa [Lit.wf] using h
  have h3 : IntKind.u8.min = 0 := by decide
  have h4 : IntKind.u8.max = 255 := by decide
  omega
set_option maxRecDepth 100000 in
theorem open_bytes {H : Type} {enc : TypeId × Value → H} {W : World} {base : Nat} {v : Value} {d : DataW H} {p : List MemPlace} (hv : Value.okWide Tryz.prog W .any base 39 v) (h : DataW.Trod enc Tryz.prog W 0 (fun _ => true) true 39 v d p) :
    ∃ (A : Option Addr) (c : Nat) (l : List Int), v = .slice A l.length c ∧ Kd.C (Kd.int .u8) W A l.length l ∧ l.length ≤ c ∧ (∀ x, x ∈ l → 0 ≤ x ∧ x < 256) ∧ l.length ≤ Rows.uptoBulk d := by
  obtain ⟨fuel, hf⟩ := h
  obtain ⟨A0, n0, c0, rfl⟩ := okWide_slice Tryz.underlying39 hv
  obtain ⟨l, ⟨A, c, e, hl, hc⟩, hok⟩ := rd_slice Tryz.underlying39 (by kernel_rfl) (rd_int Tryz.underlying5) H enc W fuel _ _ hf
  have e2 : [Value.slice A0 n0 c0] = [Value.slice A l.length c] := e
  obtain ⟨rfl, rfl, rfl⟩ := Value.slice.inj (List.cons.inj e2).1
  refine ⟨A0, c0, l, rfl, hc, hl, fun x hx => ?_, ?_⟩
  · obtain ⟨y, h6, h7⟩ := okL_at hok hx
    exact wf_u8 h6.1
  · have h5 : l.length < Rows.uptoBulk d := okL_len (fun x y (h : (Lit.int .u8 x).wf = true ∧ 1 = y) => by omega) hok
    omega
end Go.Proofs.YtkgafkoopefghaaGreatDoor.Rd
end
