/- The law ResourceChecks (chapter 06) is true of every resource whose reading is of bulk at most 1048576, and the resource reads behind the call as it read before. Conditions: the statement's own bound, and its two tables of unicode/utf8 as the program's text lays them (tied by the card). -/
import Derived.Test.YtkgafkoopefghaaGreatDoorCards
import Derived.Test.YtkgafkoopefghaaGreatDoorTie
import Derived.Test.YtkgafkoopefghaaGreatDoorRc6
import Derived.Test.YtkgafkoopefghaaGreatDoorRc36
import Derived.WalkKit
import Derived.ProofKit
import Derived.OpenShut
import Derived.ChangeOld
import Derived.Deep.DeepHandedRow
section
set_option linter.unusedVariables false
namespace Go.Proofs.YtkgafkoopefghaaGreatDoor.resourceChecks
open Go.ChangeShapes Go.WideShapes Go.ChangeAt Go.RowKit Go.Proofs.YtkgafkoopefghaaGreatDoor.Rd Go.Proofs.YtkgafkoopefghaaGreatDoor.PA Go.Proofs.YtkgafkoopefghaaGreatDoorW.PrintWords
def arg : Value := .agg #[.string ⟨#[]⟩, .string ⟨#[]⟩, .slice none 0 0]
theorem reads (os : Os) {H : Type} (enc : TypeId × Value → H) :
    (Rows.OpenSpec.upto Rows.resourceChecksSpec).preRow enc Tryz.prog Tryz.f3 Rows.resourceChecksUptoRow.domain false Rows.resourceChecksUptoRow.laid ((laidWorld os).forCall (fun _ _ => 0) ⟨#[], #[arg], []⟩).memory #[arg] := by
  have hw : (DataW.whole enc Tryz.prog ((laidWorld os).forCall (fun _ _ => 0) ⟨#[], #[arg], []⟩).memory Tryz.f3.params.toList Rows.resourceChecksSpec.vars false #[arg].toList 8).map (fun x => (x.1, x.2.1)) =
      some ([.agg [.lit (.string []), .lit (.string []), .nil]], []) := by kernel_rfl
  obtain ⟨⟨x1, x2, x3⟩, hx, hx1⟩ := Option.map_eq_some_iff.1 hw
  simp only [Prod.mk.injEq] at hx1
  obtain ⟨rfl, rfl⟩ := hx1
  exact OpenSpec.preRow_of_cond 8 hx (by kernel_rfl) (fun k hk => by cases hk; kernel_rfl) (by kernel_rfl) (laid_met os _)
set_option maxRecDepth 100000 in
theorem liftedUpto (os : Os) (started : os.Started) (H : Type) (enc : TypeId × Value → H) (F : Stop.Interp) :
    ReturnsInHanded {} Tryz.checked os 3 .any ((Rows.OpenSpec.upto Rows.resourceChecksSpec).preRow enc Tryz.prog Tryz.f3 Rows.resourceChecksUptoRow.domain false Rows.resourceChecksUptoRow.laid) (((Rows.OpenSpec.upto Rows.resourceChecksSpec).at F).post enc Tryz.prog Tryz.f3 false true false false) := by
  refine returnsInHanded_of_row (C := Tryz.checked) (s := Rows.OpenSpec.upto Rows.resourceChecksSpec) own started (by kernel_rfl) Tryz.func3
    (witness_row_at (enc := enc) (C := Tryz.checked) false (laidWorld os) #[arg] rfl (by kernel_rfl) (by kernel_rfl) (by kernel_rfl) (reads os enc)) ?_
  intro W base args ds gs before hval0 hW _ hcond _ hL hsh _
  have hbulk := small (hcond _ rfl)
  have hU : Hk.UtfOk W := utfOk hL hsh
  have hval : ∀ (j : Nat) t v, Tryz.f3.params[j]? = some t → args[j]? = some v → Value.okWide Tryz.prog W .any base t v := hval0
  have hW' := hW
  obtain ⟨p, q, hA0, hV, rfl, hfz, hnd⟩ := hW
  have hA : DataW.TrodAll enc Tryz.prog W 0 (fun _ => true) true Tryz.f3.params.toList args.toList ds p := hA0
  rw [Tryz.params3] at hA hval
  obtain ⟨v0, vs0, d0, ds0, p0, q0, hargs, rfl, rfl, h0, r0⟩ := trodAll_cons hA
  obtain ⟨rfl, rfl, rfl⟩ := trodAll_nil r0
  obtain rfl : args = #[v0] := by cases args; simp_all
  obtain ⟨rfl, rfl⟩ := trodVars_none hV
  clear hA0 hA hcond hL hsh hval0 hV
  have lt0 : ∀ x ∈ p0, x.block < W.heap.size := by obtain ⟨m, hm⟩ := h0; exact DataW.trod_lt m _ _ _ hm
  obtain ⟨a, b, A, c, l, rfl, hc, hl, hok⟩ := open_resource (hval 0 24 v0 rfl rfl) h0
  rw [List.append_nil, bulkAll_cons, bulkAll_nil] at hbulk
  have hfit : fitP l = true := List.all_eq_true.2 fun x hx => by
    have := hok.2.2.2 x hx
    rw [Bool.and_eq_true, decide_eq_true_iff, decide_eq_true_iff]
    omega
  obtain ⟨k, hk⟩ := checks_true a b l ⟨by have := hok.1; omega, by have := hok.2.1; omega, by have := hok.2.2.1; omega, hfit⟩
  refine (majordomolaw06_ResourceChecks.calls k a b A c l true W hc hl hk hU rfl).mono fun e W' ⟨he, bel⟩ => ?_
  subst he
  exact ⟨_, rfl, _, _, _, [], _, [], hW', trodAll_mk1 (shut_bool Tryz.underlying4 _), trodAll_cons_mk (Below.trod laidOut (by kernel_rfl) (of_decide_eq_true (by kernel_rfl)) h0 bel lt0) trodAll_mk0, rfl, bel.frame _, fun h => by cases h⟩
theorem saidUpto : Rows.ResourceChecksUptoSaid :=
  OpenClaim.holds_of_cond 3 Tryz.f3 rfl rfl rfl rfl rfl rfl rfl ⟨rfl, rfl, rfl, rfl, rfl⟩ rfl rfl rfl rfl rfl (by kernel_rfl) Tryz.func3 (by kernel_rfl)
    (of_decide_eq_true (by kernel_rfl)) (by unfold Func.isWrapper; first | (rw [if_pos (by decide +kernel)]; kernel_rfl) | (rw [if_neg (by decide +kernel)]; exact ⟨rfl, rfl⟩))
    (fun os started H enc _ F => by rw [OpenClaim.pre_eq_preRow]; exact liftedUpto os started H enc F)
theorem plain (f : FuncId) (fn : Func) (hf : Tryz.pinned.checked.prog.funcNamed "majordomo/majordomolaw06.ResourceChecks" = some f) (hfn : Tryz.pinned.checked.prog.funcs[f]? = some fn) :
    true = Tryz.pinned.checked.prog.looks [] ∧ ∀ (j : Nat) t, fn.params[j]? = some t → Tryz.pinned.checked.prog.wantsStandIn t = false := by
  obtain rfl : f = 3 := Option.some.inj ((show Tryz.prog.funcNamed "majordomo/majordomolaw06.ResourceChecks" = some 3 by kernel_rfl).symm.trans hf) |>.symm
  obtain rfl : fn = Tryz.f3 := (Option.some.inj (Tryz.func3.symm.trans hfn)).symm
  refine ⟨by kernel_rfl, fun j t ht => ?_⟩
  rw [Tryz.params3] at ht
  obtain rfl : t = 24 := by simpa using Array.mem_of_getElem? ht
  exact (show Tryz.prog.wantsStandIn 24 = false by kernel_rfl)
theorem cardUpto : Rows.ResourceChecksUptoCardSaid :=
  Claim7.holds_tied_plain_at .later [] _ _ _ _ saidUpto (fun _ h => by cases h) (by kernel_rfl) (fun _ h => by cases h) resourceChecksUpto_row_tie rfl ⟨rfl, rfl⟩ (by kernel_rfl) rfl plain (by kernel_rfl)
end Go.Proofs.YtkgafkoopefghaaGreatDoor.resourceChecks
namespace Go.Proofs.YtkgafkoopefghaaGreatDoor
theorem resourceChecks_holds : Rows.ResourceChecksUptoCardSaid := resourceChecks.cardUpto
end Go.Proofs.YtkgafkoopefghaaGreatDoor
end
