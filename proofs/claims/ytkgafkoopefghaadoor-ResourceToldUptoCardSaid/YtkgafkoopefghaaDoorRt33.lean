/- The law ResourceTold (chapter 06): to tell what would be so anyway changes nothing: true of every input whose reading is of bulk at most 1048576, and the input reads behind the call as it read before. Conditions: the statement's own bound, and its two tables of unicode/utf8 as the program's text lays them (tied by the card). -/
import Derived.Test.YtkgafkoopefghaaDoorCards
import Derived.Test.YtkgafkoopefghaaDoorTie
import Derived.Test.YtkgafkoopefghaaDoorRt7
import Derived.Test.YtkgafkoopefghaaDoorRt32
import Derived.WalkKit
import Derived.ProofKit
import Derived.OpenShut
import Derived.ShutString
import Derived.ChangeOld
import Derived.Deep.DeepHandedRow
section
set_option linter.unusedVariables false
namespace Go.Proofs.YtkgafkoopefghaaDoor.resourceTold
open Go.ChangeShapes Go.WideShapes Go.ChangeAt Go.RowKit Go.Proofs.YtkgafkoopefghaaDoor.Rd Go.Proofs.YtkgafkoopefghaaDoor.PA Go.Proofs.YtkgafkoopefghaaDoorW.PrintWords
open Go.ChangeMaps (open_string shut_string)
def arg0 : Value := .agg #[.string ⟨#[]⟩, .string ⟨#[]⟩, .slice none 0 0]
def arg1 : Value := .int .i64 0
theorem reads (os : Os) {H : Type} (enc : TypeId × Value → H) :
    (Rows.OpenSpec.upto Rows.resourceToldSpec).preRow enc Tryd.prog Tryd.f5 Rows.resourceToldUptoRow.domain false Rows.resourceToldUptoRow.laid ((laidWorld os).forCall (fun _ _ => 0) ⟨#[], #[arg0, arg1], []⟩).memory #[arg0, arg1] := by
  have hw : (DataW.whole enc Tryd.prog ((laidWorld os).forCall (fun _ _ => 0) ⟨#[], #[arg0, arg1], []⟩).memory Tryd.f5.params.toList Rows.resourceToldSpec.vars false #[arg0, arg1].toList 8).map (fun x => (x.1, x.2.1)) =
      some ([.agg [.lit (.string []), .lit (.string []), .nil], .lit (.int .i64 0)], []) := by kernel_rfl
  obtain ⟨⟨x1, x2, x3⟩, hx, hx1⟩ := Option.map_eq_some_iff.1 hw
  simp only [Prod.mk.injEq] at hx1
  obtain ⟨rfl, rfl⟩ := hx1
  exact OpenSpec.preRow_of_cond 8 hx (by kernel_rfl) (fun k hk => by cases hk; kernel_rfl) (by kernel_rfl) (laid_met os _)
set_option maxRecDepth 100000 in
theorem liftedUpto (os : Os) (started : os.Started) (H : Type) (enc : TypeId × Value → H) (F : Stop.Interp) :
    ReturnsInHanded {} Tryd.checked os 5 .any ((Rows.OpenSpec.upto Rows.resourceToldSpec).preRow enc Tryd.prog Tryd.f5 Rows.resourceToldUptoRow.domain false Rows.resourceToldUptoRow.laid) (((Rows.OpenSpec.upto Rows.resourceToldSpec).at F).post enc Tryd.prog Tryd.f5 false true false false) := by
  refine returnsInHanded_of_row (C := Tryd.checked) (s := Rows.OpenSpec.upto Rows.resourceToldSpec) own started (by kernel_rfl) Tryd.func5
    (witness_row_at (enc := enc) (C := Tryd.checked) false (laidWorld os) #[arg0, arg1] rfl (by kernel_rfl) (by kernel_rfl) (by kernel_rfl) (reads os enc)) ?_
  intro W base args ds gs before hval0 hW _ hcond _ hL hsh _
  have hbulk := small (hcond _ rfl)
  have hU : Hk.UtfOk W := utfOk hL hsh
  have hval : ∀ (j : Nat) t v, Tryd.f5.params[j]? = some t → args[j]? = some v → Value.okWide Tryd.prog W .any base t v := hval0
  have hW' := hW
  obtain ⟨p, q, hA0, hV, rfl, hfz, hnd⟩ := hW
  have hA : DataW.TrodAll enc Tryd.prog W 0 (fun _ => true) true Tryd.f5.params.toList args.toList ds p := hA0
  rw [Tryd.params5] at hA hval
  obtain ⟨v0, vs0, d0, ds0, p0, q0, hargs, rfl, rfl, h0, r0⟩ := trodAll_cons hA
  obtain ⟨v1, vs1, d1, ds1, p1, q1, rfl, rfl, rfl, h1, r1⟩ := trodAll_cons r0
  obtain ⟨rfl, rfl, rfl⟩ := trodAll_nil r1
  obtain rfl : args = #[v0, v1] := by cases args; simp_all
  obtain ⟨rfl, rfl⟩ := trodVars_none hV
  clear hA0 hA hcond hL hsh hval0 hV
  have lt0 : ∀ x ∈ p0, x.block < W.heap.size := by obtain ⟨m, hm⟩ := h0; exact DataW.trod_lt m _ _ _ hm
  have lt1 : ∀ x ∈ p1, x.block < W.heap.size := by obtain ⟨m, hm⟩ := h1; exact DataW.trod_lt m _ _ _ hm
  rw [List.append_nil, bulkAll_cons, bulkAll_cons, bulkAll_nil] at hbulk
  obtain ⟨a0, b0, A0, c0, l0, rfl, hc0, hl0, hok0⟩ := open_resource (hval 0 24 v0 rfl rfl) h0
  have fit0 : a0.size < 2147483648 ∧ b0.size < 2147483648 ∧ l0.length < 2147483648 ∧ fitP l0 = true := ⟨by have := hok0.1; omega, by have := hok0.2.1; omega, by have := hok0.2.2.1; omega, List.all_eq_true.2 fun x hx => by
    have := hok0.2.2.2 x hx
    rw [Bool.and_eq_true, decide_eq_true_iff, decide_eq_true_iff]
    omega⟩
  have k1 := h1
  obtain ⟨x1, rfl, rfl, rfl, w1⟩ := open_int Tryd.underlying3 (hval 1 3 v1 rfl rfl) h1
  have z1 := wf_i64_range w1
  obtain ⟨k, hk⟩ := law_told a0 b0 l0 x1 z1 fit0
  refine (majordomolaw06_ResourceTold.calls k a0 b0 A0 c0 l0 x1 true W hc0 hl0 hk hU).mono fun e W' ⟨he, bel⟩ => ?_
  subst he
  exact ⟨_, rfl, _, _, _, [], _, [], hW', trodAll_mk1 (shut_bool Tryd.underlying4 _), (trodAll_cons_mk (Below.trod laidOut (by kernel_rfl) (of_decide_eq_true (by kernel_rfl)) h0 bel lt0) (trodAll_cons_mk (Below.trod laidOut (by kernel_rfl) (of_decide_eq_true (by kernel_rfl)) k1 bel lt1) trodAll_mk0)), rfl, bel.frame _, fun h => by cases h⟩
theorem saidUpto : Rows.ResourceToldUptoSaid :=
  OpenClaim.holds_of_cond 5 Tryd.f5 rfl rfl rfl rfl rfl rfl rfl ⟨rfl, rfl, rfl, rfl, rfl⟩ rfl rfl rfl rfl rfl (by kernel_rfl) Tryd.func5 (by kernel_rfl)
    (of_decide_eq_true (by kernel_rfl)) (by unfold Func.isWrapper; first | (rw [if_pos (by decide +kernel)]; kernel_rfl) | (rw [if_neg (by decide +kernel)]; exact ⟨rfl, rfl⟩))
    (fun os started H enc _ F => by rw [OpenClaim.pre_eq_preRow]; exact liftedUpto os started H enc F)
/-- No parameter wants a stand-in; the program looks as the card says. -/
theorem plain (f : FuncId) (fn : Func) (hf : Tryd.pinned.checked.prog.funcNamed "majordomo/majordomolaw06.ResourceTold" = some f) (hfn : Tryd.pinned.checked.prog.funcs[f]? = some fn) :
    false = Tryd.pinned.checked.prog.looks [] ∧ ∀ (j : Nat) t, fn.params[j]? = some t → Tryd.pinned.checked.prog.wantsStandIn t = false := by
  obtain rfl : f = 5 := Option.some.inj ((show Tryd.prog.funcNamed "majordomo/majordomolaw06.ResourceTold" = some 5 by kernel_rfl).symm.trans hf) |>.symm
  obtain rfl : fn = Tryd.f5 := (Option.some.inj (Tryd.func5.symm.trans hfn)).symm
  refine ⟨by kernel_rfl, fun j t ht => ?_⟩
  rw [Tryd.params5] at ht
  have hm := Array.mem_of_getElem? ht
  simp only [List.mem_toArray, List.mem_cons, List.not_mem_nil, or_false] at hm
  rcases hm with rfl | rfl
  · exact (show Tryd.prog.wantsStandIn 24 = false by kernel_rfl)
  · exact (show Tryd.prog.wantsStandIn 3 = false by kernel_rfl)
theorem cardUpto : Rows.ResourceToldUptoCardSaid :=
  Claim7.holds_tied_plain_at .later [] _ _ _ _ saidUpto (fun _ h => by cases h) (by kernel_rfl) (fun _ h => by cases h) resourceToldUpto_row_tie rfl ⟨rfl, rfl⟩ (by kernel_rfl) rfl plain (by kernel_rfl)
end Go.Proofs.YtkgafkoopefghaaDoor.resourceTold
namespace Go.Proofs.YtkgafkoopefghaaDoor
theorem resourceTold_holds : Rows.ResourceToldUptoCardSaid := resourceTold.cardUpto
end Go.Proofs.YtkgafkoopefghaaDoor
end
