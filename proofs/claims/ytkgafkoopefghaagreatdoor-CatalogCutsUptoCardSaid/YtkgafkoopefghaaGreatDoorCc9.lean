/- A part of this law; its conditions stand in the last text. -/
import Derived.Test.YtkgafkoopefghaaGreatDoorCc6
section
namespace Go.Proofs.YtkgafkoopefghaaGreatDoor.PA
open Go.RowKit Go.Proofs.YtkgafkoopefghaaGreatDoorW.PrintWords Go.Proofs.YtkgafkoopefghaaGreatDoorW.PrintLast Go.Proofs.YtkgafkoopefghaaGreatDoorW.PrintMore
attribute [local go_sem] max2_int min2_int max_two min_two max_three min_three max_four min_four
set_option linter.unusedVariables false
set_option linter.unusedSimpArgs false
theorem eqA31 (d : Nat) (w : World) (x0 y0 : ByteArray) (x1 y1 : ByteArray) :
 (Op.equalIn (d + 2) 31 (.agg #[.string x0, .string x1]) (.agg #[.string y0, .string y1])).run Tryz.prog w = .ok (x0.toList == y0.toList && (x1.toList == y1.toList)) w := by
 refine eqA_of Tryz.underlying31 (by kernel_rfl) ?_
 refine eqf_cons (by rfl) (by go_simp; rfl) (by go_simp; rfl) (by go_simp) ?_
 exact eqf_last (by rfl) (by go_simp; rfl) (by go_simp; rfl) (by go_simp)
end Go.Proofs.YtkgafkoopefghaaGreatDoor.PA
end
section
set_option linter.unusedVariables false
set_option linter.unusedSimpArgs false
namespace Go.Proofs.YtkgafkoopefghaaGreatDoor.PA
open Go.RowKit Go.Proofs.YtkgafkoopefghaaGreatDoor.Hk Go.Proofs.YtkgafkoopefghaaGreatDoorW.PrintWords
def idxS (p : S24 → Bool) (l : List S24) : Int := match l.findIdx? p with | some i => (i : Int) | none => -1
theorem idxS_some {p : S24 → Bool} {l : List S24} {i : Nat} (hi : i < l.length) (hp : p (rd_T24 l (i : Int)) = true) (hn : ∀ j : Nat, j < i → p (rd_T24 l (j : Int)) = false) : idxS p l = (i : Int) := by
  have e : ∀ j : Nat, (h : j < l.length) → rd_T24 l (j : Int) = l[j] := fun j h => by unfold rd_T24; rw [Int.toNat_natCast, List.getD_eq_getElem?_getD, List.getElem?_eq_getElem h]; rfl
  unfold idxS
  have : l.findIdx? p = some i := by
    rw [List.findIdx?_eq_some_iff_getElem]
    exact ⟨hi, by rw [← e i hi]; exact hp, fun j hj => by rw [← e j (by omega), hn j hj]; decide⟩
  rw [this]
theorem idxS_none {p : S24 → Bool} {l : List S24} (hn : ∀ j : Nat, j < l.length → p (rd_T24 l (j : Int)) = false) : idxS p l = -1 := by
  have e : ∀ j : Nat, (h : j < l.length) → rd_T24 l (j : Int) = l[j] := fun j h => by unfold rd_T24; rw [Int.toNat_natCast, List.getD_eq_getElem?_getD, List.getElem?_eq_getElem h]; rfl
  unfold idxS
  have : l.findIdx? p = none := by
    rw [List.findIdx?_eq_none_iff]
    intro x hx
    obtain ⟨j, hj, rfl⟩ := List.mem_iff_getElem.1 hx
    rw [← e j hj]; exact hn j hj
  rw [this]
theorem idxS_cases (p : S24 → Bool) (l : List S24) : (idxS p l = -1 ∧ ∀ j : Nat, j < l.length → p (rd_T24 l (j : Int)) = false) ∨ ∃ i : Nat, i < l.length ∧ idxS p l = (i : Int) ∧ p (rd_T24 l (i : Int)) = true ∧ ∀ j : Nat, j < i → p (rd_T24 l (j : Int)) = false := by
  have e : ∀ j : Nat, (h : j < l.length) → rd_T24 l (j : Int) = l[j] := fun j h => by unfold rd_T24; rw [Int.toNat_natCast, List.getD_eq_getElem?_getD, List.getElem?_eq_getElem h]; rfl
  cases h : l.findIdx? p with
  | none =>
    have h2 : idxS p l = -1 := by unfold idxS; rw [h]
    rw [List.findIdx?_eq_none_iff] at h
    exact .inl ⟨h2, fun j hj => by rw [e j hj]; simpa using h _ (List.getElem_mem hj)⟩
  | some i =>
    have h2 : idxS p l = (i : Int) := by unfold idxS; rw [h]
    rw [List.findIdx?_eq_some_iff_getElem] at h
    obtain ⟨hi, hp, hn⟩ := h
    exact .inr ⟨i, hi, h2, by rw [e i hi]; exact hp, fun j hj => by rw [e j (by omega)]; simpa using hn j hj⟩
def FnR (g : Nat) (lb : Array Value) (p : S24 → Bool) (l : List S24) (w : World) : Prop :=
  ∀ (W : World) (s : S24) (A : Option Addr) (c : Nat), s ∈ l → Below w.heap.size w W → Kd.C k31 W A s.f2.length s.f2 → s.f2.length ≤ c → Calls Tryz.prog g (#[.agg #[.string s.f0, .string s.f1, .slice A s.f2.length c]] ++ lb) W fun e w' => e = .returned (.bool (p s)) ∧ Below W.heap.size W w'
theorem rd24_mem {l : List S24} {i : Int} (h0 : 0 ≤ i) (h1 : i < l.length) : rd_T24 l i ∈ l := by
  unfold rd_T24
  rw [List.getD_eq_getElem?_getD, List.getElem?_eq_getElem (by omega)]
  exact List.getElem_mem _
set_option maxRecDepth 100000 in
set_option maxHeartbeats 1000000 in
theorem index24_calls (g : Nat) (lb : Array Value) (eg : ∀ args w, (callFunc g args).run Tryz.prog w = .ok (.enter g args) w) (p : S24 → Bool) (A0 : Option Addr) (c0 : Nat) (l0 : List S24) (w : World) (hr : Kd.C k24 w A0 l0.length l0) (hf : FnR g lb p l0 w) (hl : l0.length ≤ 9223372036854775806) :
    Calls Tryz.prog 50 #[.slice A0 l0.length c0, .func (.func g) #[] lb] w fun e w' => e = .returned (.int .i64 (idxS p l0)) ∧ Below w.heap.size w w' := by
  have HR := As.mk hr
  have HF := As.mk hf
  clear hr hf
  have hu24 := Tryz.underlying24
  go_enter Tryz.func50, Tryz.ntmps50
  go_wp2
  go_loopg [5, 8] l0.length (fun kq v5 v8 w' => ∃ i : Nat, v8 = .int .i64 i ∧ As (i + kq = l0.length) ∧ As (∀ j : Nat, j < i → p (rd_T24 l0 j) = false) ∧ As (Below w.heap.size w w'))
  case atStart => exact ⟨0, rfl, ⟨by omega⟩, ⟨fun j hj => by omega⟩, ⟨Below.refl _ _⟩⟩
  case round =>
    obtain ⟨i, rfl, HK, HA, HB⟩ := hrel
    by_cases hlt : i < l0.length
    · have hlt' : (i : Int) < (l0.length : Int) := by omega
      obtain ⟨ad, A2, c2, ead, hx0, hx1, hx2, hl2, hi2⟩ := at_T24 (Kd.C_below HR.out HB.out) (i : Int) (by omega) hlt'
      cases ead
      have hcall := HF.out wr (rd_T24 l0 i) A2 c2 (rd24_mem (by omega) hlt') HB.out hi2 hl2
      simp only [Int.toNat_natCast] at hx0 hx1 hx2
      clear hi2 hl2
      generalize hs : rd_T24 l0 (i : Int) = s at hx0 hx1 hx2 hcall
      have HS := As.mk hs
      clear hs
      have HC := As.mk hcall
      clear hcall
      cases hq : p s with
      | true =>
        have HQ := As.mk hq
        clear hq
        go_wp2_with (go_at_fn g; refine HC.out.mono ?_; rintro e w1 ⟨rfl, hb⟩; rw [HQ.out])
        go_ret
        exact ⟨by rw [idxS_some hlt (by rw [HS.out]; exact HQ.out) HA.out]; rfl, HB.out.trans (hb.mono HB.out.size)⟩
      | false =>
        have HQ := As.mk hq
        clear hq
        go_wp2_with (go_at_fn g; refine HC.out.mono ?_; rintro e w1 ⟨rfl, hb⟩; rw [HQ.out])
        go_roundg (l0.length - (i + 1))
        case measure => have := HK.out; omega
        case rel =>
          refine ⟨i + 1, by go_num, ⟨by omega⟩, ⟨fun j hj => ?_⟩, ⟨HB.out.trans (hb.mono HB.out.size)⟩⟩
          by_cases e : j = i
          · subst e; rw [HS.out]; exact HQ.out
          · exact HA.out j (by omega)
    · have hge : ¬ (i : Int) < (l0.length : Int) := by omega
      go_wp2
      go_ret
      exact ⟨by rw [idxS_none (fun j hj => HA.out j (by have := HK.out; omega))]; rfl, HB.out⟩
def findP (kind title : ByteArray) (s : S24) : Bool := s.f0.toList == kind.toList && s.f1.toList == title.toList
def catalog_Find.f (a0_0 : Int) (a0_1 : ByteArray) (l0_2 : List (S24)) (l0_3 : List (S50)) (a1 : ByteArray) (a2 : ByteArray) : Option (Int) := if l0_2.length ≤ 9223372036854775806 then some (idxS (findP a1 a2) l0_2) else none
end Go.Proofs.YtkgafkoopefghaaGreatDoor.PA
end
