/- The law ResourceNames (chapter 06): parameters are looked up, and resources named and put in order: true of every input whose reading is of bulk at most 1048576, and the input reads behind the call as it read before. Conditions: the statement's own bound, and its two tables of unicode/utf8 as the program's text lays them (tied by the card). -/
import Derived.Test.YtkgafkoopefghaaDoorCards
import Derived.Test.YtkgafkoopefghaaDoorTie
import Derived.Test.YtkgafkoopefghaaDoorRn7
import Derived.Test.YtkgafkoopefghaaDoorRn30
import Derived.WalkKit
import Derived.ProofKit
import Derived.OpenShut
import Derived.ShutString
import Derived.ChangeOld
import Derived.Deep.DeepHandedRow
section
set_option linter.unusedVariables false
namespace Go.Proofs.YtkgafkoopefghaaDoor.resourceNames
open Go.ChangeShapes Go.WideShapes Go.ChangeAt Go.RowKit Go.Proofs.YtkgafkoopefghaaDoor.Rd Go.Proofs.YtkgafkoopefghaaDoor.PA Go.Proofs.YtkgafkoopefghaaDoorW.PrintWords
open Go.ChangeMaps (open_string shut_string)
def arg0 : Value := .agg #[.string ⟨#[]⟩, .string ⟨#[]⟩, .slice none 0 0]
def arg1 : Value := .agg #[.string ⟨#[]⟩, .string ⟨#[]⟩, .slice none 0 0]
def arg2 : Value := .string ⟨#[]⟩
theorem reads (os : Os) {H : Type} (enc : TypeId × Value → H) :
    (Rows.OpenSpec.upto Rows.resourceNamesSpec).preRow enc Tryd.prog Tryd.f6 Rows.resourceNamesUptoRow.domain false Rows.resourceNamesUptoRow.laid ((laidWorld os).forCall (fun _ _ => 0) ⟨#[], #[arg0, arg1, arg2], []⟩).memory #[arg0, arg1, arg2] := by
  have hw : (DataW.whole enc Tryd.prog ((laidWorld os).forCall (fun _ _ => 0) ⟨#[], #[arg0, arg1, arg2], []⟩).memory Tryd.f6.params.toList Rows.resourceNamesSpec.vars false #[arg0, arg1, arg2].toList 8).map (fun x => (x.1, x.2.1)) =
      some ([.agg [.lit (.string []), .lit (.string []), .nil], .agg [.lit (.string []), .lit (.string []), .nil], .lit (.string [])], []) := by kernel_rfl
  obtain ⟨⟨x1, x2, x3⟩, hx, hx1⟩ := Option.map_eq_some_iff.1 hw
  simp only [Prod.mk.injEq] at hx1
  obtain ⟨rfl, rfl⟩ := hx1
  exact OpenSpec.preRow_of_cond 8 hx (by kernel_rfl) (fun k hk => by cases hk; kernel_rfl) (by kernel_rfl) (laid_met os _)
set_option maxRecDepth 100000 in
theorem liftedUpto (os : Os) (started : os.Started) (H : Type) (enc : TypeId × Value → H) (F : Stop.Interp) :
    ReturnsInHanded {} Tryd.checked os 6 .any ((Rows.OpenSpec.upto Rows.resourceNamesSpec).preRow enc Tryd.prog Tryd.f6 Rows.resourceNamesUptoRow.domain false Rows.resourceNamesUptoRow.laid) (((Rows.OpenSpec.upto Rows.resourceNamesSpec).at F).post enc Tryd.prog Tryd.f6 false true false false) := by
  refine returnsInHanded_of_row (C := Tryd.checked) (s := Rows.OpenSpec.upto Rows.resourceNamesSpec) own started (by kernel_rfl) Tryd.func6
    (witness_row_at (enc := enc) (C := Tryd.checked) false (laidWorld os) #[arg0, arg1, arg2] rfl (by kernel_rfl) (by kernel_rfl) (by kernel_rfl) (reads os enc)) ?_
  intro W base args ds gs before hval0 hW _ hcond _ hL hsh _
  have hbulk := small (hcond _ rfl)
  have hU : Hk.UtfOk W := utfOk hL hsh
  have hval : ∀ (j : Nat) t v, Tryd.f6.params[j]? = some t → args[j]? = some v → Value.okWide Tryd.prog W .any base t v := hval0
  have hW' := hW
  obtain ⟨p, q, hA0, hV, rfl, hfz, hnd⟩ := hW
  have hA : DataW.TrodAll enc Tryd.prog W 0 (fun _ => true) true Tryd.f6.params.toList args.toList ds p := hA0
  rw [Tryd.params6] at hA hval
  obtain ⟨v0, vs0, d0, ds0, p0, q0, hargs, rfl, rfl, h0, r0⟩ := trodAll_cons hA
  obtain ⟨v1, vs1, d1, ds1, p1, q1, rfl, rfl, rfl, h1, r1⟩ := trodAll_cons r0
  obtain ⟨v2, vs2, d2, ds2, p2, q2, rfl, rfl, rfl, h2, r2⟩ := trodAll_cons r1
  obtain ⟨rfl, rfl, rfl⟩ := trodAll_nil r2
  obtain rfl : args = #[v0, v1, v2] := by cases args; simp_all
  obtain ⟨rfl, rfl⟩ := trodVars_none hV
  clear hA0 hA hcond hL hsh hval0 hV
  have lt0 : ∀ x ∈ p0, x.block < W.heap.size := by obtain ⟨m, hm⟩ := h0; exact DataW.trod_lt m _ _ _ hm
  have lt1 : ∀ x ∈ p1, x.block < W.heap.size := by obtain ⟨m, hm⟩ := h1; exact DataW.trod_lt m _ _ _ hm
  have lt2 : ∀ x ∈ p2, x.block < W.heap.size := by obtain ⟨m, hm⟩ := h2; exact DataW.trod_lt m _ _ _ hm
  rw [List.append_nil, bulkAll_cons, bulkAll_cons, bulkAll_cons, bulkAll_nil] at hbulk
  obtain ⟨a0, b0, A0, c0, l0, rfl, hc0, hl0, hok0⟩ := open_resource (hval 0 24 v0 rfl rfl) h0
  have fit0 : a0.size < 2147483648 ∧ b0.size < 2147483648 ∧ l0.length < 2147483648 ∧ fitP l0 = true := ⟨by have := hok0.1; omega, by have := hok0.2.1; omega, by have := hok0.2.2.1; omega, List.all_eq_true.2 fun x hx => by
    have := hok0.2.2.2 x hx
    rw [Bool.and_eq_true, decide_eq_true_iff, decide_eq_true_iff]
    omega⟩
  obtain ⟨a1, b1, A1, c1, l1, rfl, hc1, hl1, hok1⟩ := open_resource (hval 1 24 v1 rfl rfl) h1
  have fit1 : a1.size < 2147483648 ∧ b1.size < 2147483648 ∧ l1.length < 2147483648 ∧ fitP l1 = true := ⟨by have := hok1.1; omega, by have := hok1.2.1; omega, by have := hok1.2.2.1; omega, List.all_eq_true.2 fun x hx => by
    have := hok1.2.2.2 x hx
    rw [Bool.and_eq_true, decide_eq_true_iff, decide_eq_true_iff]
    omega⟩
  have k2 := h2
  obtain ⟨s2, rfl, rfl, rfl, y2⟩ := open_string Tryd.underlying9 (hval 2 9 v2 rfl rfl) h2
  rw [bulk_string] at hbulk
  have q2 : s2.size = s2.data.toList.length := by rw [ByteArray.size]; simp
  refine (law_names a0 b0 A0 c0 l0 a1 b1 A1 c1 l1 s2 W hc0 hl0 hc1 hl1 hU ⟨by have := fit0.2.2.1; omega, by have := fit0.1; omega, by have := fit0.2.1; omega⟩).mono fun e W' ⟨he, bel⟩ => ?_
  subst he
  exact ⟨_, rfl, _, _, _, [], _, [], hW', trodAll_mk1 (shut_bool Tryd.underlying4 _), (trodAll_cons_mk (Below.trod laidOut (by kernel_rfl) (of_decide_eq_true (by kernel_rfl)) h0 bel lt0) (trodAll_cons_mk (Below.trod laidOut (by kernel_rfl) (of_decide_eq_true (by kernel_rfl)) h1 bel lt1) (trodAll_cons_mk (Below.trod laidOut (by kernel_rfl) (of_decide_eq_true (by kernel_rfl)) k2 bel lt2) trodAll_mk0))), rfl, bel.frame _, fun h => by cases h⟩
theorem saidUpto : Rows.ResourceNamesUptoSaid :=
  OpenClaim.holds_of_cond 6 Tryd.f6 rfl rfl rfl rfl rfl rfl rfl ⟨rfl, rfl, rfl, rfl, rfl⟩ rfl rfl rfl rfl rfl (by kernel_rfl) Tryd.func6 (by kernel_rfl)
    (of_decide_eq_true (by kernel_rfl)) (by unfold Func.isWrapper; first | (rw [if_pos (by decide +kernel)]; kernel_rfl) | (rw [if_neg (by decide +kernel)]; exact ⟨rfl, rfl⟩))
    (fun os started H enc _ F => by rw [OpenClaim.pre_eq_preRow]; exact liftedUpto os started H enc F)
theorem plain (f : FuncId) (fn : Func) (hf : Tryd.pinned.checked.prog.funcNamed "majordomo/majordomolaw06.ResourceNames" = some f) (hfn : Tryd.pinned.checked.prog.funcs[f]? = some fn) :
    false = Tryd.pinned.checked.prog.looks [] ∧ ∀ (j : Nat) t, fn.params[j]? = some t → Tryd.pinned.checked.prog.wantsStandIn t = false := by
  obtain rfl : f = 6 := Option.some.inj ((show Tryd.prog.funcNamed "majordomo/majordomolaw06.ResourceNames" = some 6 by kernel_rfl).symm.trans hf) |>.symm
  obtain rfl : fn = Tryd.f6 := (Option.some.inj (Tryd.func6.symm.trans hfn)).symm
  refine ⟨by kernel_rfl, fun j t ht => ?_⟩
  rw [Tryd.params6] at ht
  have hm := Array.mem_of_getElem? ht
  simp only [List.mem_toArray, List.mem_cons, List.not_mem_nil, or_false] at hm
  rcases hm with rfl | rfl | rfl
  · exact (show Tryd.prog.wantsStandIn 24 = false by kernel_rfl)
  · exact (show Tryd.prog.wantsStandIn 24 = false by kernel_rfl)
  · exact (show Tryd.prog.wantsStandIn 9 = false by kernel_rfl)
theorem cardUpto : Rows.ResourceNamesUptoCardSaid :=
  Claim7.holds_tied_plain_at .later [] _ _ _ _ saidUpto (fun _ h => by cases h) (by kernel_rfl) (fun _ h => by cases h) resourceNamesUpto_row_tie rfl ⟨rfl, rfl⟩ (by kernel_rfl) rfl plain (by kernel_rfl)
end Go.Proofs.YtkgafkoopefghaaDoor.resourceNames
namespace Go.Proofs.YtkgafkoopefghaaDoor
theorem resourceNames_holds : Rows.ResourceNamesUptoCardSaid := resourceNames.cardUpto
end Go.Proofs.YtkgafkoopefghaaDoor
end
