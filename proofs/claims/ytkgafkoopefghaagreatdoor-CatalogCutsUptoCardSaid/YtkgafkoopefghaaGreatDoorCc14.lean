/- A part of this law; its conditions stand in the last text. -/
import Derived.Lib.Hide
import Derived.Test.YtkgafkoopefghaaGreatDoorCc12
import Derived.Test.YtkgafkoopefghaaGreatDoorCc10
import Derived.Test.YtkgafkoopefghaaGreatDoorCc6
import Derived.Test.YtkgafkoopefghaaGreatDoorCc13
section
set_option linter.unusedVariables false
set_option linter.unusedSimpArgs false
namespace Go.Proofs.YtkgafkoopefghaaGreatDoor.PA
open Go.RowKit Go.Maps Go.WideMaps Go.Proofs.YtkgafkoopefghaaGreatDoor.Hk Go.Proofs.YtkgafkoopefghaaGreatDoorW.PrintWords
def widthD : DataW Value := (((((DataW.map ([] : List (Lit × DataW Value))).put (kS ⟨#[97, 99, 99, 111, 117, 110, 116, 115]⟩) (.lit (.int .i64 3))).put (kS ⟨#[103, 114, 111, 117, 112, 115]⟩) (.lit (.int .i64 1))).put (kS ⟨#[112, 97, 99, 107, 97, 103, 101, 115]⟩) (.lit (.int .i64 1))).put (kS ⟨#[115, 101, 114, 118, 105, 99, 101, 115]⟩) (.lit (.int .i64 2))).put (kS ⟨#[102, 97, 99, 116, 115]⟩) (.lit (.int .i64 1))
theorem kint (n : Int) (h : (Lit.int .i64 n).wf = true) : plainElem (H := Value) Tryz.prog 3 (.int .i64 n) = some (.lit (.int .i64 n), []) := plainElem_int Tryz.underlying3 h
set_option maxRecDepth 100000 in
set_option maxHeartbeats 1000000 in
theorem widths_calls (w : World) : Calls Tryz.prog 101 #[] w fun e w' => ∃ b, e = .returned (.map (some b)) ∧ w'.ownsMap Tryz.prog 9 (plainElem (H := Value) Tryz.prog 3) b 5 widthD ∧ Below w.heap.size w w' := by
  have hmm := @run_makeMap Tryz.prog
  have K := string_keyed Tryz.underlying9
  go_enter Tryz.func101, Tryz.ntmps101
  have hown := World.ownsMap_made w Tryz.prog 9 (plainElem (H := Value) Tryz.prog 3)
  have hb : Below w.heap.size w (w.alloc (.map #[] 0)) := (Below.refl _ _).alloc (Nat.le_refl _) _
  go_wp2_with ((with_reducible refine gate_insert rfl ?_); refine wpList_insert_own _ rfl _ _ _ 130 rfl 9 3 K Tryz.underlying130 _ _ _ _ rfl hown (by unfold maxLen; omega) _ _ _ rfl rfl (keyOf_string_mk Tryz.underlying9 (by decide)) _ _ (kint _ (by decide)) ?_; intro w' hown' hg'; have n1 := below_row hb hg' hb.size (Nat.le_refl _); clear hb hown hg'; have hb := n1; have hown := hown'; clear n1 hown')
  go_ret
  exact ⟨_, rfl, hown, hb⟩
def widthS (s : ByteArray) : Int := if s = ⟨#[97, 99, 99, 111, 117, 110, 116, 115]⟩ then 3 else if s = ⟨#[103, 114, 111, 117, 112, 115]⟩ then 1 else if s = ⟨#[112, 97, 99, 107, 97, 103, 101, 115]⟩ then 1 else if s = ⟨#[115, 101, 114, 118, 105, 99, 101, 115]⟩ then 2 else if s = ⟨#[102, 97, 99, 116, 115]⟩ then 1 else 0
theorem kS_inj {s t : ByteArray} (h : kS s = kS t) : s = t := by
  simp only [kS, Lit.string.injEq] at h
  cases s; cases t; simp at h; simp [h]
theorem at_put (D : DataW Value) (hD : IsMap D) (s t : ByteArray) (d z : DataW Value) : (D.put (kS t) d).atKey (kS s) z = if s = t then d else D.atKey (kS s) z := by
  by_cases e : s = t
  · subst e; rw [if_pos rfl]; exact Maps.atKey_put_same hD (by simp [WideAt.IsKeyLit, kS]) d z
  · rw [if_neg e]; exact Maps.atKey_put_other (fun h => e (kS_inj h)) d z
theorem has_put (D : DataW Value) (hD : IsMap D) (s t : ByteArray) (d : DataW Value) : Maps.has (D.put (kS t) d) (kS s) = if s = t then true else Maps.has D (kS s) := by
  by_cases e : s = t
  · subst e; rw [if_pos rfl]; exact Maps.has_put_same hD (by simp [WideAt.IsKeyLit, kS]) d
  · rw [if_neg e]; exact Maps.has_put_other (fun h => e (kS_inj h)) d
theorem widthD_at (s : ByteArray) : widthD.atKey (kS s) (.lit (.int .i64 0)) = .lit (.int .i64 (widthS s)) := by
  have m0 : IsMap (DataW.map ([] : List (Lit × DataW Value))) := isMap_empty
  unfold widthD widthS
  have m1 := m0.put (kS ⟨#[97, 99, 99, 111, 117, 110, 116, 115]⟩) (.lit (.int .i64 3))
  have m2 := m1.put (kS ⟨#[103, 114, 111, 117, 112, 115]⟩) (.lit (.int .i64 1))
  have m3 := m2.put (kS ⟨#[112, 97, 99, 107, 97, 103, 101, 115]⟩) (.lit (.int .i64 1))
  have m4 := m3.put (kS ⟨#[115, 101, 114, 118, 105, 99, 101, 115]⟩) (.lit (.int .i64 2))
  rw [at_put _ m4, at_put _ m3, at_put _ m2, at_put _ m1, at_put _ m0]
  by_cases c1 : s = ⟨#[97, 99, 99, 111, 117, 110, 116, 115]⟩
  · subst c1; rfl
  by_cases c2 : s = ⟨#[103, 114, 111, 117, 112, 115]⟩
  · subst c2; rfl
  by_cases c3 : s = ⟨#[112, 97, 99, 107, 97, 103, 101, 115]⟩
  · subst c3; rfl
  by_cases c4 : s = ⟨#[115, 101, 114, 118, 105, 99, 101, 115]⟩
  · subst c4; rfl
  by_cases c5 : s = ⟨#[102, 97, 99, 116, 115]⟩
  · subst c5; rfl
  rw [if_neg c5, if_neg c4, if_neg c3, if_neg c2, if_neg c1, if_neg c1, if_neg c2, if_neg c3, if_neg c4, if_neg c5]
  rfl
set_option maxRecDepth 100000 in
set_option maxHeartbeats 1000000 in
theorem tables_Width.calls (s : ByteArray) (w : World) (hs : s.size ≤ maxLen) : Calls Tryz.prog 76 #[.string s] w fun e w' => e = .returned (.int .i64 (widthS s)) ∧ Below w.heap.size w w' := by
  have K := string_keyed Tryz.underlying9
  go_enter Tryz.func76, Tryz.ntmps76
  go_wp2_with (go_at_call 101; refine (widths_calls _).mono ?_; rintro e w1 ⟨b, rfl, hown, hb⟩; obtain ⟨c, hrun, hat, _⟩ := hown.lookup_int K Tryz.underlying130 Tryz.underlying3 (by kernel_rfl) (keyOf_string_mk Tryz.underlying9 hs); have hat2 := (widthD_at s).symm.trans hat; simp only [DataW.lit.injEq, Lit.int.injEq, true_and] at hat2; have HW := Lib.hid hat2; clear hat hat2 hown)
  go_ret
  exact ⟨by rw [HW.out]; rfl, hb⟩
theorem word_f (s : ByteArray) (m : Int) (hs : s.size ≤ 9223372036854775807) : tables_word.f s m = some (wordB s m) := by
  unfold tables_word.f wordB strings_Trim.f
  by_cases c : (s.size : Int) ≤ m
  · rw [if_pos c, if_pos ⟨hs, by decide, by decide⟩, Option.bind_some, decide_eq_true c]
    congr 1
    rw [Bool.true_and, toList_eq, Bool.eq_iff_iff, beq_iff_eq]
    exact trimS_nil _ _
  · rw [if_neg c, decide_eq_false c]; rfl
def fitB (s : ByteArray) : Bool := decide (s.size ≤ 9223372036854775807)
def checkS (table key : ByteArray) (cells : List ByteArray) : Int :=
  if widthS table = 0 then 50 else if key.toList = [] then 51 else if wordB key 32 = false then 51 else if (cells.length : Int) = widthS table then (if cells.any (fun c => !wordB c 64) = true then 51 else 0) else 51
def tables_Check.f (a0 : ByteArray) (a1_0 : ByteArray) (l1_1 : List ByteArray) : Option (Int) :=
  if fitB a0 = true ∧ fitB a1_0 = true ∧ l1_1.all fitB = true ∧ l1_1.length ≤ 9223372036854775807 then some (checkS a0 a1_0 l1_1) else none
set_option maxRecDepth 100000 in
set_option maxHeartbeats 1000000 in
theorem check1_calls (s : ByteArray) (W : World) (hs : s.size ≤ 9223372036854775807) : Calls Tryz.prog 78 #[.string s] W fun e w' => e = .returned (.bool (!wordB s 64)) ∧ Below W.heap.size W w' := by
  have HC := As.mk (fun w => tables_word.calls s 64 (wordB s 64) w (word_f s 64 hs))
  generalize wordB s 64 = b at HC
  go_enter Tryz.func78, Tryz.ntmps78
  go_wp2_with (go_at_call 79; refine (HC.out _).mono ?_; rintro e w1 ⟨rfl, hb⟩)
  go_ret
  exact ⟨rfl, hb⟩
theorem enters_check1 : ∀ args w, (callFunc 78 args).run Tryz.prog w = .ok (.enter 78 args) w := enters_of Tryz.func78 (by kernel_rfl) rfl
set_option maxRecDepth 100000 in
set_option maxHeartbeats 4000000 in
theorem tables_Check.calls (a0 : ByteArray) (a1_0 : ByteArray) (A1_1 : Option Addr) (c1_1 : Nat) (l1_1 : List ByteArray) (r : Int) (w : World) (hr1_1 : Kd.C Kd.string w A1_1 l1_1.length l1_1) (hc1_1 : l1_1.length ≤ c1_1) (h : tables_Check.f a0 a1_0 l1_1 = some r) :
    Calls Tryz.prog 39 #[.string a0, .agg #[.string a1_0, .slice A1_1 l1_1.length c1_1]] w fun e w' => e = .returned (.int .i64 r) ∧ Below w.heap.size w w' := by
  unfold tables_Check.f at h
  by_cases c : fitB a0 = true ∧ fitB a1_0 = true ∧ l1_1.all fitB = true ∧ l1_1.length ≤ 9223372036854775807
  · rw [if_pos c] at h
    obtain rfl := Option.some.inj h
    clear h
    have HR := As.mk hr1_1
    clear hr1_1
    have h0 : a0.size ≤ 9223372036854775807 := of_decide_eq_true c.1
    have h1 : a1_0.size ≤ 9223372036854775807 := of_decide_eq_true c.2.1
    have hl := c.2.2.2
    have HL := As.mk (fun s (hs : s ∈ l1_1) => (of_decide_eq_true (List.all_eq_true.1 c.2.2.1 s hs) : s.size ≤ 9223372036854775807))
    clear c
    have HW := As.mk (fun w => tables_Width.calls a0 w (by unfold maxLen; exact h0))
    have HK := As.mk (fun w => tables_word.calls a1_0 32 (wordB a1_0 32) w (word_f a1_0 32 h1))
    have HC := As.mk (fun w1 (hb : Below w.heap.size w w1) => contains_calls 78 #[] enters_check1 (fun s => !wordB s 64) A1_1 c1_1 l1_1 w1 (Kd.C_below HR.out hb) (fun W s hs _ => check1_calls s W (HL.out s hs)) hl)
    have h2 : (l1_1.length : Int) ≤ 9223372036854775807 := by omega
    have HE : As (checkS a0 a1_0 l1_1 = checkS a0 a1_0 l1_1) := ⟨rfl⟩
    conv at HE => arg 1; lhs; unfold checkS
    generalize checkS a0 a1_0 l1_1 = r at HE ⊢
    generalize widthS a0 = n at HW HE
    generalize wordB a1_0 32 = bk at HK HE
    generalize l1_1.any (fun c => !wordB c 64) = bad at HC HE
    by_cases c1 : n = 0
    · have e := HE.out
      rw [if_pos c1] at e
      subst e
      have cn : (n == 0) = true := beq_iff_eq.2 c1
      clear c1 HE
      go_enter Tryz.func39, Tryz.ntmps39
      go_wp2_with (first
        | (go_at_call 76; refine (HW.out _).mono ?_; rintro e w1 ⟨rfl, hb⟩; have BK : w1.heap[w.heap.size]? = some (.cells #[.string a1_0, .slice A1_1 l1_1.length c1_1] 85 (0, 0)) := (hb.block _ (by simp)).trans (heap_alloc_new w _); have HB := As.mk (((Below.refl w.heap.size w).alloc (Nat.le_refl _) _).trans (hb.mono (by simp))); have k0 := kC BK 0; have k1 := kC BK 1; have BA := As.mk BK; clear BK hb)
        | (go_at_call 77; refine (HC.out _ HB.out).mono ?_; rintro e w2 ⟨rfl, hb⟩; have BK := (hb.block _ (Array.getElem?_eq_some_iff.1 BA.out).1).trans BA.out; have n1 := As.mk (HB.out.trans (hb.mono HB.out.size)); clear HB BA k0 k1; have HB := n1; clear n1; have k0 := kC BK 0; have k1 := kC BK 1; have BA := As.mk BK; clear BK hb)
        | (go_at_call 79; refine (HK.out _).mono ?_; rintro e w3 ⟨rfl, hb⟩; have BK := (hb.block _ (Array.getElem?_eq_some_iff.1 BA.out).1).trans BA.out; have n1 := As.mk (HB.out.trans (hb.mono HB.out.size)); clear HB BA k0 k1; have HB := n1; clear n1; have k0 := kC BK 0; have k1 := kC BK 1; have BA := As.mk BK; clear BK hb))
      go_ret
      exact ⟨rfl, HB.out⟩
    have cn : (n == 0) = false := beq_eq_false_iff_ne.2 c1
    by_cases c2 : a1_0.toList = []
    · have e := HE.out
      rw [if_neg c1, if_pos c2] at e
      subst e
      have ck : (a1_0.toList == ([] : List UInt8)) = true := beq_iff_eq.2 c2
      clear c1 c2 HE
      go_enter Tryz.func39, Tryz.ntmps39
      go_wp2_with (first
        | (go_at_call 76; refine (HW.out _).mono ?_; rintro e w1 ⟨rfl, hb⟩; have BK : w1.heap[w.heap.size]? = some (.cells #[.string a1_0, .slice A1_1 l1_1.length c1_1] 85 (0, 0)) := (hb.block _ (by simp)).trans (heap_alloc_new w _); have HB := As.mk (((Below.refl w.heap.size w).alloc (Nat.le_refl _) _).trans (hb.mono (by simp))); have k0 := kC BK 0; have k1 := kC BK 1; have BA := As.mk BK; clear BK hb)
        | (go_at_call 77; refine (HC.out _ HB.out).mono ?_; rintro e w2 ⟨rfl, hb⟩; have BK := (hb.block _ (Array.getElem?_eq_some_iff.1 BA.out).1).trans BA.out; have n1 := As.mk (HB.out.trans (hb.mono HB.out.size)); clear HB BA k0 k1; have HB := n1; clear n1; have k0 := kC BK 0; have k1 := kC BK 1; have BA := As.mk BK; clear BK hb)
        | (go_at_call 79; refine (HK.out _).mono ?_; rintro e w3 ⟨rfl, hb⟩; have BK := (hb.block _ (Array.getElem?_eq_some_iff.1 BA.out).1).trans BA.out; have n1 := As.mk (HB.out.trans (hb.mono HB.out.size)); clear HB BA k0 k1; have HB := n1; clear n1; have k0 := kC BK 0; have k1 := kC BK 1; have BA := As.mk BK; clear BK hb))
      go_ret
      exact ⟨rfl, HB.out⟩
    have ck : (a1_0.toList == ([] : List UInt8)) = false := beq_eq_false_iff_ne.2 c2
    cases bk with
    | false =>
      have e := HE.out
      rw [if_neg c1, if_neg c2, if_pos rfl] at e
      subst e
      clear c1 c2 HE
      go_enter Tryz.func39, Tryz.ntmps39
      go_wp2_with (first
        | (go_at_call 76; refine (HW.out _).mono ?_; rintro e w1 ⟨rfl, hb⟩; have BK : w1.heap[w.heap.size]? = some (.cells #[.string a1_0, .slice A1_1 l1_1.length c1_1] 85 (0, 0)) := (hb.block _ (by simp)).trans (heap_alloc_new w _); have HB := As.mk (((Below.refl w.heap.size w).alloc (Nat.le_refl _) _).trans (hb.mono (by simp))); have k0 := kC BK 0; have k1 := kC BK 1; have BA := As.mk BK; clear BK hb)
        | (go_at_call 77; refine (HC.out _ HB.out).mono ?_; rintro e w2 ⟨rfl, hb⟩; have BK := (hb.block _ (Array.getElem?_eq_some_iff.1 BA.out).1).trans BA.out; have n1 := As.mk (HB.out.trans (hb.mono HB.out.size)); clear HB BA k0 k1; have HB := n1; clear n1; have k0 := kC BK 0; have k1 := kC BK 1; have BA := As.mk BK; clear BK hb)
        | (go_at_call 79; refine (HK.out _).mono ?_; rintro e w3 ⟨rfl, hb⟩; have BK := (hb.block _ (Array.getElem?_eq_some_iff.1 BA.out).1).trans BA.out; have n1 := As.mk (HB.out.trans (hb.mono HB.out.size)); clear HB BA k0 k1; have HB := n1; clear n1; have k0 := kC BK 0; have k1 := kC BK 1; have BA := As.mk BK; clear BK hb))
      go_ret
      exact ⟨rfl, HB.out⟩
    | true =>
    by_cases c3 : (l1_1.length : Int) = n
    · have cl : ((l1_1.length : Int) != n) = false := bne_eq_false_iff_eq.2 c3
      have e := HE.out
      rw [if_neg c1, if_neg c2, if_neg (by decide), if_pos c3] at e
      clear c1 c2 c3 HE
      cases bad with
      | false =>
        rw [if_neg (by decide)] at e
        subst e
        go_enter Tryz.func39, Tryz.ntmps39
        go_wp2_with (first
          | (go_at_call 76; refine (HW.out _).mono ?_; rintro e w1 ⟨rfl, hb⟩; have BK : w1.heap[w.heap.size]? = some (.cells #[.string a1_0, .slice A1_1 l1_1.length c1_1] 85 (0, 0)) := (hb.block _ (by simp)).trans (heap_alloc_new w _); have HB := As.mk (((Below.refl w.heap.size w).alloc (Nat.le_refl _) _).trans (hb.mono (by simp))); have k0 := kC BK 0; have k1 := kC BK 1; have BA := As.mk BK; clear BK hb)
          | (go_at_call 77; refine (HC.out _ HB.out).mono ?_; rintro e w2 ⟨rfl, hb⟩; have BK := (hb.block _ (Array.getElem?_eq_some_iff.1 BA.out).1).trans BA.out; have n1 := As.mk (HB.out.trans (hb.mono HB.out.size)); clear HB BA k0 k1; have HB := n1; clear n1; have k0 := kC BK 0; have k1 := kC BK 1; have BA := As.mk BK; clear BK hb)
          | (go_at_call 79; refine (HK.out _).mono ?_; rintro e w3 ⟨rfl, hb⟩; have BK := (hb.block _ (Array.getElem?_eq_some_iff.1 BA.out).1).trans BA.out; have n1 := As.mk (HB.out.trans (hb.mono HB.out.size)); clear HB BA k0 k1; have HB := n1; clear n1; have k0 := kC BK 0; have k1 := kC BK 1; have BA := As.mk BK; clear BK hb))
        go_ret
        exact ⟨rfl, HB.out⟩
      | true =>
        rw [if_pos rfl] at e
        subst e
        go_enter Tryz.func39, Tryz.ntmps39
        go_wp2_with (first
          | (go_at_call 76; refine (HW.out _).mono ?_; rintro e w1 ⟨rfl, hb⟩; have BK : w1.heap[w.heap.size]? = some (.cells #[.string a1_0, .slice A1_1 l1_1.length c1_1] 85 (0, 0)) := (hb.block _ (by simp)).trans (heap_alloc_new w _); have HB := As.mk (((Below.refl w.heap.size w).alloc (Nat.le_refl _) _).trans (hb.mono (by simp))); have k0 := kC BK 0; have k1 := kC BK 1; have BA := As.mk BK; clear BK hb)
          | (go_at_call 77; refine (HC.out _ HB.out).mono ?_; rintro e w2 ⟨rfl, hb⟩; have BK := (hb.block _ (Array.getElem?_eq_some_iff.1 BA.out).1).trans BA.out; have n1 := As.mk (HB.out.trans (hb.mono HB.out.size)); clear HB BA k0 k1; have HB := n1; clear n1; have k0 := kC BK 0; have k1 := kC BK 1; have BA := As.mk BK; clear BK hb)
          | (go_at_call 79; refine (HK.out _).mono ?_; rintro e w3 ⟨rfl, hb⟩; have BK := (hb.block _ (Array.getElem?_eq_some_iff.1 BA.out).1).trans BA.out; have n1 := As.mk (HB.out.trans (hb.mono HB.out.size)); clear HB BA k0 k1; have HB := n1; clear n1; have k0 := kC BK 0; have k1 := kC BK 1; have BA := As.mk BK; clear BK hb))
        go_ret
        exact ⟨rfl, HB.out⟩
    · have cl : ((l1_1.length : Int) != n) = true := bne_iff_ne.2 c3
      have e := HE.out
      rw [if_neg c1, if_neg c2, if_neg (by decide), if_neg c3] at e
      subst e
      clear c1 c2 c3 HE
      go_enter Tryz.func39, Tryz.ntmps39
      go_wp2_with (first
        | (go_at_call 76; refine (HW.out _).mono ?_; rintro e w1 ⟨rfl, hb⟩; have BK : w1.heap[w.heap.size]? = some (.cells #[.string a1_0, .slice A1_1 l1_1.length c1_1] 85 (0, 0)) := (hb.block _ (by simp)).trans (heap_alloc_new w _); have HB := As.mk (((Below.refl w.heap.size w).alloc (Nat.le_refl _) _).trans (hb.mono (by simp))); have k0 := kC BK 0; have k1 := kC BK 1; have BA := As.mk BK; clear BK hb)
        | (go_at_call 77; refine (HC.out _ HB.out).mono ?_; rintro e w2 ⟨rfl, hb⟩; have BK := (hb.block _ (Array.getElem?_eq_some_iff.1 BA.out).1).trans BA.out; have n1 := As.mk (HB.out.trans (hb.mono HB.out.size)); clear HB BA k0 k1; have HB := n1; clear n1; have k0 := kC BK 0; have k1 := kC BK 1; have BA := As.mk BK; clear BK hb)
        | (go_at_call 79; refine (HK.out _).mono ?_; rintro e w3 ⟨rfl, hb⟩; have BK := (hb.block _ (Array.getElem?_eq_some_iff.1 BA.out).1).trans BA.out; have n1 := As.mk (HB.out.trans (hb.mono HB.out.size)); clear HB BA k0 k1; have HB := n1; clear n1; have k0 := kC BK 0; have k1 := kC BK 1; have BA := As.mk BK; clear BK hb))
      go_ret
      exact ⟨rfl, HB.out⟩
  · rw [if_neg c] at h
    cases h
end Go.Proofs.YtkgafkoopefghaaGreatDoor.PA
end
