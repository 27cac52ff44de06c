/- A part of this law; its conditions stand in the last text. -/
import Derived.Lib.Hide
import Derived.Test.YtkgafkoopefghaaGreatDoorCc10
import Derived.Test.YtkgafkoopefghaaGreatDoorCc6
import Derived.Test.YtkgafkoopefghaaGreatDoorCc13
import Derived.Test.YtkgafkoopefghaaGreatDoorCc15
section
set_option linter.unusedVariables false
set_option linter.unusedSimpArgs false
namespace Go.Proofs.YtkgafkoopefghaaGreatDoor.PA
open Go.RowKit Go.Proofs.YtkgafkoopefghaaGreatDoor.Hk Go.Proofs.YtkgafkoopefghaaGreatDoorW.PrintWords
theorem name_f (s : ByteArray) (hs : s.size ≤ 9223372036854775807) : layout_Name.f s = some (nameB s) := by
  unfold layout_Name.f nameB strings_Trim.f
  simp only [toList_eq]
  by_cases c1 : s.data.toList = []
  · rw [if_pos c1, decide_eq_true c1]; rfl
  rw [if_neg c1, decide_eq_false c1]
  by_cases c2 : (s.size : Int) ≤ 28
  · rw [if_pos c2, decide_eq_true c2]
    by_cases c3 : s.data.toList = [46]
    · rw [if_pos c3, decide_eq_true c3]; rfl
    rw [if_neg c3, decide_eq_false c3]
    by_cases c4 : s.data.toList = [46, 46]
    · rw [if_pos c4, decide_eq_true c4]; rfl
    rw [if_neg c4, decide_eq_false c4, if_pos ⟨hs, by decide, by decide⟩, Option.bind_some]
    congr 1
    rw [Bool.eq_iff_iff, beq_iff_eq]
    simp only [Bool.not_false, Bool.true_and]
    exact trimS_nil _ _
  · rw [if_neg c2, decide_eq_false c2]; rfl
def cutSlash (s : ByteArray) : ByteArray × Bool := if s.data.toList.head? = some 47 then (s.extract 1 s.size, true) else (s, false)
def piecesS (s : ByteArray) : List ByteArray := Lib.splitB ⟨#[47]⟩ 0 (Lib.countB s ⟨#[47]⟩) s
def badPath (s : ByteArray) : Bool := !(cutSlash s).2 || (piecesS (cutSlash s).1).any (fun n => !nameB n) || decide ((120 : Int) < s.size) || decide ((8 : Int) < (piecesS (cutSlash s).1).length)
def pathS (s : ByteArray) : List ByteArray × Int := if s.toList = ([47] : List UInt8) then ([], 0) else if badPath s = true then ([], 40) else (piecesS (cutSlash s).1, 0)
def layout_Path.f (a0 : ByteArray) : Option (List ByteArray × Int) := if a0.size < 2147483648 then some (pathS a0) else none
theorem cut_f (s : ByteArray) : strings_CutPrefix.f s (⟨#[47]⟩ : ByteArray) = some (cutSlash s) := by
  unfold strings_CutPrefix.f stringslite_CutPrefix.f stringslite_HasPrefix.f cutSlash
  have e1 : ((⟨#[47]⟩ : ByteArray).size : Int) = 1 := rfl
  simp only [toList_eq, e1]
  by_cases c : (s.size : Int) ≥ 1
  · rw [if_pos c, if_pos (by decide), if_pos (by omega), Option.bind_some]
    have hb : ((s.extract 0 (1 : Int).toNat).data.toList == (⟨#[47]⟩ : ByteArray).data.toList) = decide (s.data.toList.head? = some 47) := by
      have : (s.extract 0 (1 : Int).toNat).data.toList = s.data.toList.take 1 := Lib.extract_from_zero s 1
      rw [this, Bool.eq_iff_iff, beq_iff_eq, decide_eq_true_iff]
      cases h : s.data.toList with
      | nil => simp
      | cons x l => simp
    rw [hb]
    by_cases d : s.data.toList.head? = some 47
    · rw [decide_eq_true d, if_pos rfl, if_pos (by decide), if_pos (by omega), if_pos d]; rfl
    · rw [decide_eq_false d, if_neg (by decide), if_neg d]; rfl
  · have h0 : s.data.toList = [] := List.eq_nil_of_length_eq_zero (by have := Lib.size_eq s; omega)
    rw [if_neg c, Option.bind_some, if_neg (by decide), if_neg (by rw [h0]; decide)]; rfl
theorem pieces_all (s : ByteArray) (n : Nat) (hs : s.size ≤ n) : ∀ x ∈ piecesS s, x.size ≤ n := by
  unfold piecesS
  generalize Lib.countB s ⟨#[47]⟩ = k
  induction k generalizing s with
  | zero => intro x hx; rw [Lib.splitB_zero] at hx; rw [List.mem_singleton.1 hx]; exact hs
  | succ k ih =>
    intro x hx
    unfold Lib.splitB at hx
    split at hx
    · rw [List.mem_singleton.1 hx]; exact hs
    · rcases List.mem_cons.1 hx with rfl | hx
      · rw [ByteArray.size_extract]; omega
      · refine ih _ ?_ x hx
        rw [ByteArray.size_extract]; omega
theorem pieces_len (s : ByteArray) : (piecesS s).length ≤ s.size + 1 := by
  unfold piecesS
  rw [splitB_len s _ (by decide)]
  have := Lib.countB_le ⟨#[47]⟩ (by decide) s.size s (Nat.le_refl _)
  omega
theorem cutSlash_size (s : ByteArray) : (cutSlash s).1.size ≤ s.size := by
  unfold cutSlash
  split
  · simp only [ByteArray.size_extract]; omega
  · exact Nat.le_refl _
set_option maxRecDepth 100000 in
set_option maxHeartbeats 1000000 in
theorem path1_calls (s : ByteArray) (W : World) (hs : s.size ≤ 9223372036854775807) : Calls Tryz.prog 95 #[.string s] W fun e w' => e = .returned (.bool (!nameB s)) ∧ Below W.heap.size W w' := by
  have HC := As.mk (fun w => layout_Name.calls s (nameB s) w (name_f s hs))
  generalize nameB s = b at HC
  go_enter Tryz.func95, Tryz.ntmps95
  go_wp2_with (go_at_call 96; refine (HC.out _).mono ?_; rintro e w1 ⟨rfl, hb⟩)
  go_ret
  exact ⟨rfl, hb⟩
theorem enters_path1 : ∀ args w, (callFunc 95 args).run Tryz.prog w = .ok (.enter 95 args) w := enters_of Tryz.func95 (by kernel_rfl) rfl
set_option maxRecDepth 100000 in
set_option maxHeartbeats 4000000 in
theorem layout_Path.calls (a0 : ByteArray) (r1 : List ByteArray) (r2 : Int) (w : World) (h : layout_Path.f a0 = some (r1, r2)) (hU : UtfOk w) :
    Calls Tryz.prog 62 #[.string a0] w fun e w' => ∃ v0_ : Value, e = .returned (.tuple #[v0_, .int .i64 r2]) ∧ Kd.R Kd.string 9 w' w.heap.size (fun _ => True) v0_ r1 ∧ Below w.heap.size w w' := by
  unfold layout_Path.f at h
  by_cases c : a0.size < 2147483648
  · rw [if_pos c] at h
    have e := Option.some.inj h
    clear h
    unfold pathS at e
    by_cases c1 : a0.toList = ([47] : List UInt8)
    · rw [if_pos c1] at e
      obtain ⟨rfl, rfl⟩ := Prod.mk.inj e
      have ck : (a0.toList == ([47] : List UInt8)) = true := beq_iff_eq.2 c1
      clear c1 e
      go_enter Tryz.func62, Tryz.ntmps62
      go_wp2
      go_ret2
      exact ⟨_, rfl, Kd.R_nil _ _ _ _ _, Below.refl _ _⟩
    · have ck : (a0.toList == ([47] : List UInt8)) = false := beq_eq_false_iff_ne.2 c1
      rw [if_neg c1] at e
      clear c1
      have HCut := As.mk (fun w => strings_CutPrefix.calls a0 (⟨#[47]⟩ : ByteArray) (cutSlash a0).1 (cutSlash a0).2 w (cut_f a0))
      have hsz := cutSlash_size a0
      have HSp := As.mk (fun w (hU : UtfOk w) => strings_Split.calls (cutSlash a0).1 (⟨#[47]⟩ : ByteArray) (piecesS (cutSlash a0).1) w (by unfold strings_Split.f piecesS; rw [if_pos ⟨by omega, by decide⟩]) hU)
      have hpl := pieces_len (cutSlash a0).1
      have HPA := As.mk (pieces_all (cutSlash a0).1 _ (Nat.le_refl _))
      have HBad := As.mk (show badPath a0 = (!(cutSlash a0).2 || (piecesS (cutSlash a0).1).any (fun n => !nameB n) || decide ((120 : Int) < a0.size) || decide ((8 : Int) < (piecesS (cutSlash a0).1).length)) from rfl)
      have HU := As.mk hU
      have HE := As.mk e
      clear e hU
      generalize badPath a0 = bad at HBad HE
      generalize hl : piecesS (cutSlash a0).1 = l at HSp HPA HBad HE hpl
      clear hl
      generalize (cutSlash a0).1 = rest at HCut HSp HPA hsz hpl
      generalize (cutSlash a0).2 = ok at HCut HBad
      have hl2 : (l.length : Int) ≤ 2147483648 := by omega
      have HCt := As.mk (fun w1 A c (hr : Kd.C Kd.string w1 A l.length l) => contains_calls 95 #[] enters_path1 (fun s => !nameB s) A c l w1 hr (fun W s hs _ => path1_calls s W (by have := HPA.out s hs; omega)) (by omega))
      generalize l.any (fun n => !nameB n) = nb at HCt HBad
      cases ok with
      | false =>
        obtain rfl : bad = true := by rw [HBad.out]; simp
        obtain ⟨rfl, rfl⟩ := Prod.mk.inj ((if_pos rfl).symm.trans HE.out)
        clear HE HBad
        go_enter Tryz.func62, Tryz.ntmps62
        go_wp2_with (first
          | (go_at_call 93; refine (HCut.out _).mono ?_; rintro e w1 ⟨rfl, ⟨q, rfl⟩⟩)
          | (go_at_call 94; refine (HSp.out _ (UtfOk.of_below HU.out (bN (Below.refl _ _) q))).mono ?_; rintro e w2 ⟨v, rfl, hR, hb⟩; obtain ⟨A, c, rfl, hlc, hC⟩ := Kd.R_reads hR; have HR := As.mk hR; have HC := As.mk hC; have HB := As.mk ((bN (Below.refl w.heap.size w) q).trans hb); clear hR hC hb)
          | (go_at_call 77; refine (HCt.out _ _ _ HC.out).mono ?_; rintro e w3 ⟨rfl, hb⟩; have n1 := As.mk (Kd.R_below HR.out hb); have n2 := As.mk (HB.out.trans (hb.mono HB.out.size)); clear HR HC HB hb; have HR := n1; have HB := n2; clear n1 n2))
        go_ret2
        exact ⟨_, rfl, Kd.R_nil _ _ _ _ _, HB.out⟩
      | true =>
        cases nb with
        | true =>
          obtain rfl : bad = true := by rw [HBad.out]; simp
          obtain ⟨rfl, rfl⟩ := Prod.mk.inj ((if_pos rfl).symm.trans HE.out)
          clear HE HBad
          go_enter Tryz.func62, Tryz.ntmps62
          go_wp2_with (first
            | (go_at_call 93; refine (HCut.out _).mono ?_; rintro e w1 ⟨rfl, ⟨q, rfl⟩⟩)
            | (go_at_call 94; refine (HSp.out _ (UtfOk.of_below HU.out (bN (Below.refl _ _) q))).mono ?_; rintro e w2 ⟨v, rfl, hR, hb⟩; obtain ⟨A, c, rfl, hlc, hC⟩ := Kd.R_reads hR; have HR := As.mk hR; have HC := As.mk hC; have HB := As.mk ((bN (Below.refl w.heap.size w) q).trans hb); clear hR hC hb)
            | (go_at_call 77; refine (HCt.out _ _ _ HC.out).mono ?_; rintro e w3 ⟨rfl, hb⟩; have n1 := As.mk (Kd.R_below HR.out hb); have n2 := As.mk (HB.out.trans (hb.mono HB.out.size)); clear HR HC HB hb; have HR := n1; have HB := n2; clear n1 n2))
          go_ret2
          exact ⟨_, rfl, Kd.R_nil _ _ _ _ _, HB.out⟩
        | false =>
          by_cases d1 : (120 : Int) < (a0.size : Int)
          · have d1b : decide ((120 : Int) < (a0.size : Int)) = true := decide_eq_true d1
            have d1c : decide (120 < a0.size) = true := decide_eq_true (by omega)
            obtain rfl : bad = true := by rw [HBad.out]; simp [d1]
            obtain ⟨rfl, rfl⟩ := Prod.mk.inj ((if_pos rfl).symm.trans HE.out)
            clear HE HBad
            go_enter Tryz.func62, Tryz.ntmps62
            go_wp2_with (first
              | (go_at_call 93; refine (HCut.out _).mono ?_; rintro e w1 ⟨rfl, ⟨q, rfl⟩⟩)
              | (go_at_call 94; refine (HSp.out _ (UtfOk.of_below HU.out (bN (Below.refl _ _) q))).mono ?_; rintro e w2 ⟨v, rfl, hR, hb⟩; obtain ⟨A, c, rfl, hlc, hC⟩ := Kd.R_reads hR; have HR := As.mk hR; have HC := As.mk hC; have HB := As.mk ((bN (Below.refl w.heap.size w) q).trans hb); clear hR hC hb)
              | (go_at_call 77; refine (HCt.out _ _ _ HC.out).mono ?_; rintro e w3 ⟨rfl, hb⟩; have n1 := As.mk (Kd.R_below HR.out hb); have n2 := As.mk (HB.out.trans (hb.mono HB.out.size)); clear HR HC HB hb; have HR := n1; have HB := n2; clear n1 n2))
            go_ret2
            exact ⟨_, rfl, Kd.R_nil _ _ _ _ _, HB.out⟩
          · have d1b : decide ((120 : Int) < (a0.size : Int)) = false := decide_eq_false d1
            have d1c : decide (120 < a0.size) = false := decide_eq_false (by omega)
            by_cases d2 : (8 : Int) < (l.length : Int)
            · have d2b : decide ((8 : Int) < (l.length : Int)) = true := decide_eq_true d2
              have d2c : decide (8 < l.length) = true := decide_eq_true (by omega)
              obtain rfl : bad = true := by rw [HBad.out]; simp [d2]
              obtain ⟨rfl, rfl⟩ := Prod.mk.inj ((if_pos rfl).symm.trans HE.out)
              clear HE HBad
              go_enter Tryz.func62, Tryz.ntmps62
              go_wp2_with (first
                | (go_at_call 93; refine (HCut.out _).mono ?_; rintro e w1 ⟨rfl, ⟨q, rfl⟩⟩)
                | (go_at_call 94; refine (HSp.out _ (UtfOk.of_below HU.out (bN (Below.refl _ _) q))).mono ?_; rintro e w2 ⟨v, rfl, hR, hb⟩; obtain ⟨A, c, rfl, hlc, hC⟩ := Kd.R_reads hR; have HR := As.mk hR; have HC := As.mk hC; have HB := As.mk ((bN (Below.refl w.heap.size w) q).trans hb); clear hR hC hb)
                | (go_at_call 77; refine (HCt.out _ _ _ HC.out).mono ?_; rintro e w3 ⟨rfl, hb⟩; have n1 := As.mk (Kd.R_below HR.out hb); have n2 := As.mk (HB.out.trans (hb.mono HB.out.size)); clear HR HC HB hb; have HR := n1; have HB := n2; clear n1 n2))
              go_ret2
              exact ⟨_, rfl, Kd.R_nil _ _ _ _ _, HB.out⟩
            · have d2b : decide ((8 : Int) < (l.length : Int)) = false := decide_eq_false d2
              have d2c : decide (8 < l.length) = false := decide_eq_false (by omega)
              obtain rfl : bad = false := by rw [HBad.out, d1b, d2b]; rfl
              obtain ⟨rfl, rfl⟩ := Prod.mk.inj ((if_neg (by decide)).symm.trans HE.out)
              clear HE HBad
              go_enter Tryz.func62, Tryz.ntmps62
              go_wp2_with (first
                | (go_at_call 93; refine (HCut.out _).mono ?_; rintro e w1 ⟨rfl, ⟨q, rfl⟩⟩)
                | (go_at_call 94; refine (HSp.out _ (UtfOk.of_below HU.out (bN (Below.refl _ _) q))).mono ?_; rintro e w2 ⟨v, rfl, hR, hb⟩; obtain ⟨A, c, rfl, hlc, hC⟩ := Kd.R_reads hR; have HR := As.mk hR; have HC := As.mk hC; have HB := As.mk ((bN (Below.refl w.heap.size w) q).trans hb); clear hR hC hb)
                | (go_at_call 77; refine (HCt.out _ _ _ HC.out).mono ?_; rintro e w3 ⟨rfl, hb⟩; have n1 := As.mk (Kd.R_below HR.out hb); have n2 := As.mk (HB.out.trans (hb.mono HB.out.size)); clear HR HC HB hb; have HR := n1; have HB := n2; clear n1 n2))
              go_ret2
              exact ⟨_, rfl, Kd.R_lower HR.out (Nat.le_refl _), HB.out⟩
  · rw [if_neg c] at h
    cases h
end Go.Proofs.YtkgafkoopefghaaGreatDoor.PA
end
