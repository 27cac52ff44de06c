/- A part of this law; its conditions stand in the last text. -/
import Derived.Test.YtkgafkoopefghaaGreatDoorCc23
import Derived.Laws.Cover1
section
set_option linter.unusedVariables false
set_option linter.unusedSimpArgs false
namespace Go.Proofs.YtkgafkoopefghaaGreatDoor.PA
open Go.RowKit Go.Maps Go.WideMaps Go.Proofs.YtkgafkoopefghaaGreatDoor.Hk Go.Proofs.YtkgafkoopefghaaGreatDoorW.PrintWords
def Refused (w : World) (n : Int) (e : Ending) (w' : World) : Prop := e = .returned (.tuple #[.agg #[.string (⟨#[]⟩ : ByteArray), .string (⟨#[]⟩ : ByteArray), .slice none 0 0], .int .i64 n]) ∧ Below w.heap.size w w'
theorem eqlNil (w : World) : (binOp .eql 54 (.map none) (.map none)).run Tryz.prog w = .ok (.bool true) w := by kernel_rfl
theorem eqlSome (b : Nat) (w : World) : (binOp .eql 54 (.map (some b)) (.map none)).run Tryz.prog w = .ok (.bool false) w := by kernel_rfl
theorem shapes_some {kind first : ByteArray} {specs : List (ByteArray × List (ByteArray × RuleD))} (h : shapesD kind = some (first, specs)) (w : World) : Calls Tryz.prog 27 #[.string kind] w fun e w' => ∃ b hi, e = .returned (.tuple #[.string first, .map (some b)]) ∧ St w w' b hi specs := by
  refine (shapes_calls kind w).mono ?_
  rintro e w' (⟨hn, _⟩ | ⟨f, s, b, hi, hs, he, hst⟩)
  · rw [h] at hn; cases hn
  · rw [h] at hs; cases hs; exact ⟨b, hi, he, hst⟩
set_option maxRecDepth 100000 in
set_option maxHeartbeats 8000000 in
theorem full_kind (a0_0 a0_1 : ByteArray) (A0_2 : Option Addr) (c0_2 : Nat) (l0_2 : List (S31)) (w : World) (h : shapesD a0_0 = none) :
    Calls Tryz.prog 11 #[.agg #[.string a0_0, .string a0_1, .slice A0_2 l0_2.length c0_2]] w (Refused w 60) := by
  have hu24 := Tryz.underlying24
  have HS := As.mk h
  have hq1 := eqlNil
  have hq2 := eqlSome
  have HB := As.mk (Below.refl w.heap.size w)
  clear h
  go_enter Tryz.func11, Tryz.ntmps11
  go_wp2_with (first | ((with_reducible refine gate_dst (N := 1) rfl ?_); refine box_event ?hg (N := 1) ?hd (cs := #[.string a0_0, .string a0_1, .slice A0_2 l0_2.length c0_2]) (t := 24) ?hr ?_; (case hd => rfl); (case hg => rfl); (case hr => first | (go_simp; done) | (go_simp; rfl)); intro g1 hg w1 hbox hb; have GEg1 := As.mk ((by rw [hg]; exact (bZ (by repeat (first | (with_reducible first | exact HB.out | apply bA | apply bN | apply bD) | exact HB.out))) : w.heap.size ≤ g1)); have nB_ := As.mk (bT (by repeat (first | (with_reducible first | exact HB.out | apply bA | apply bN | apply bD) | exact HB.out)) hb); clear HB; have HB := nB_; clear nB_; have BKg1 := As.mk hbox; clear hb hbox hg; have c1_g1_0 : w1.cell? ⟨g1, 0, none⟩ = some (.string a0_0) := (kC BKg1.out 0).trans rfl; have f1_g1_0 := kF BKg1.out 0; have c1_g1_1 : w1.cell? ⟨g1, 1, none⟩ = some (.string a0_1) := (kC BKg1.out 1).trans rfl; have f1_g1_1 := kF BKg1.out 1; have c1_g1_2 : w1.cell? ⟨g1, 2, none⟩ = some (.slice A0_2 l0_2.length c0_2) := (kC BKg1.out 2).trans rfl; have f1_g1_2 := kF BKg1.out 2) | ((with_reducible refine gate_dst (N := 2) rfl ?_); refine box_event ?hg (N := 2) ?hd (cs := #[.string (⟨#[]⟩ : ByteArray), .string (⟨#[]⟩ : ByteArray), .slice none 0 0]) (t := 24) ?hr ?_; (case hd => rfl); (case hg => rfl); (case hr => first | (go_simp; done) | (go_simp; rfl)); intro g2 hg w2 hbox hb; have NEg1_g2 := As.mk ((by rw [hg]; exact Nat.ne_of_lt (blk_lt (w := _) BKg1.out)) : g1 ≠ g2); have GEg2 := As.mk ((by rw [hg]; exact (bZ (by repeat (first | (with_reducible first | exact HB.out | apply bA | apply bN | apply bD | refine bS ?_ GEg1.out) | exact HB.out))) : w.heap.size ≤ g2)); have ng1_ := As.mk (kB (g := g1) (o := .cells #[.string a0_0, .string a0_1, .slice A0_2 l0_2.length c0_2] 24 (0, 0)) (by (with_reducible repeat (first | refine kN ?_ _ | refine kD ?_ | refine kA ?_ _)); exact BKg1.out) hb); have nB_ := As.mk (bT (by repeat (first | (with_reducible first | exact HB.out | apply bA | apply bN | apply bD | refine bS ?_ GEg1.out) | exact HB.out)) hb); clear BKg1; have BKg1 := ng1_; clear ng1_; clear HB; have HB := nB_; clear nB_; have BKg2 := As.mk hbox; clear hb hbox hg; have c2_g1_0 : w2.cell? ⟨g1, 0, none⟩ = some (.string a0_0) := (kC BKg1.out 0).trans rfl; have f2_g1_0 := kF BKg1.out 0; have c2_g1_1 : w2.cell? ⟨g1, 1, none⟩ = some (.string a0_1) := (kC BKg1.out 1).trans rfl; have f2_g1_1 := kF BKg1.out 1; have c2_g1_2 : w2.cell? ⟨g1, 2, none⟩ = some (.slice A0_2 l0_2.length c0_2) := (kC BKg1.out 2).trans rfl; have f2_g1_2 := kF BKg1.out 2; have c2_g2_0 : w2.cell? ⟨g2, 0, none⟩ = some (.string (⟨#[]⟩ : ByteArray)) := (kC BKg2.out 0).trans rfl; have f2_g2_0 := kF BKg2.out 0; have c2_g2_1 : w2.cell? ⟨g2, 1, none⟩ = some (.string (⟨#[]⟩ : ByteArray)) := (kC BKg2.out 1).trans rfl; have f2_g2_1 := kF BKg2.out 1; have c2_g2_2 : w2.cell? ⟨g2, 2, none⟩ = some (.slice none 0 0) := (kC BKg2.out 2).trans rfl; have f2_g2_2 := kF BKg2.out 2) | (go_at_call 27; refine (shapes_none _ _ HS.out).mono ?_; rintro e w3 ⟨rfl, hb⟩; have ng1_ := As.mk (kB (g := g1) (o := .cells #[.string a0_0, .string a0_1, .slice A0_2 l0_2.length c0_2] 24 (0, 0)) (by (with_reducible repeat (first | refine kN ?_ _ | refine kD ?_ | refine kA ?_ _)); exact BKg1.out) hb); have ng2_ := As.mk (kB (g := g2) (o := .cells #[.string (⟨#[]⟩ : ByteArray), .string (⟨#[]⟩ : ByteArray), .slice none 0 0] 24 (0, 0)) (by (with_reducible repeat (first | refine kN ?_ _ | refine kD ?_ | refine kA ?_ _)); exact BKg2.out) hb); have nB_ := As.mk (bT (by repeat (first | (with_reducible first | exact HB.out | apply bA | apply bN | apply bD | refine bS ?_ GEg1.out | refine bS ?_ GEg2.out) | exact HB.out)) hb); clear BKg1; have BKg1 := ng1_; clear ng1_; clear BKg2; have BKg2 := ng2_; clear ng2_; clear HB; have HB := nB_; clear nB_; clear hb; have c3_g1_0 : w3.cell? ⟨g1, 0, none⟩ = some (.string a0_0) := (kC BKg1.out 0).trans rfl; have f3_g1_0 := kF BKg1.out 0; have c3_g1_1 : w3.cell? ⟨g1, 1, none⟩ = some (.string a0_1) := (kC BKg1.out 1).trans rfl; have f3_g1_1 := kF BKg1.out 1; have c3_g1_2 : w3.cell? ⟨g1, 2, none⟩ = some (.slice A0_2 l0_2.length c0_2) := (kC BKg1.out 2).trans rfl; have f3_g1_2 := kF BKg1.out 2; have c3_g2_0 : w3.cell? ⟨g2, 0, none⟩ = some (.string (⟨#[]⟩ : ByteArray)) := (kC BKg2.out 0).trans rfl; have f3_g2_0 := kF BKg2.out 0; have c3_g2_1 : w3.cell? ⟨g2, 1, none⟩ = some (.string (⟨#[]⟩ : ByteArray)) := (kC BKg2.out 1).trans rfl; have f3_g2_1 := kF BKg2.out 1; have c3_g2_2 : w3.cell? ⟨g2, 2, none⟩ = some (.slice none 0 0) := (kC BKg2.out 2).trans rfl; have f3_g2_2 := kF BKg2.out 2) | ((with_reducible refine gate_store (t := 24) (p := 2) rfl ?_); refine store_event (t := 24) (p := 2) (v := ?vo4) (w1 := ?wo4) ?hg ?ho ?hn ?hr ?_; (case ho => rfl); (case hg => rfl); (case hn => rfl); (case hr => first | (go_simp; done) | (go_simp; rfl)); intro w4 hw; have ng1_ := As.mk ((by rw [hw]; (repeat refine kR ?_ NEg1_g2.out _); (with_reducible repeat (first | refine kN ?_ _ | refine kD ?_ | refine kA ?_ _)); exact BKg1.out) : w4.heap[g1]? = some (.cells #[.string a0_0, .string a0_1, .slice A0_2 l0_2.length c0_2] 24 (0, 0))); have ng2_ := As.mk ((by rw [hw]; refine kP (cs := #[(.string (⟨#[]⟩ : ByteArray)), (.string (⟨#[]⟩ : ByteArray)), .slice none 0 0]) ?_ 2 _ rfl; refine kP (cs := #[(.string (⟨#[]⟩ : ByteArray)), .string (⟨#[]⟩ : ByteArray), .slice none 0 0]) ?_ 1 _ rfl; refine kP (cs := #[.string (⟨#[]⟩ : ByteArray), .string (⟨#[]⟩ : ByteArray), .slice none 0 0]) ?_ 0 _ rfl; (with_reducible repeat (first | refine kN ?_ _ | refine kD ?_ | refine kA ?_ _)); exact BKg2.out) : w4.heap[g2]? = some (.cells #[(.string (⟨#[]⟩ : ByteArray)), (.string (⟨#[]⟩ : ByteArray)), (.slice none 0 0)] 24 (0, 0))); have nB_ := As.mk ((by rw [hw]; exact (by repeat (first | (with_reducible first | exact HB.out | apply bA | apply bN | apply bD | refine bS ?_ GEg1.out | refine bS ?_ GEg2.out) | exact HB.out))) : Below w.heap.size w w4); clear BKg1; have BKg1 := ng1_; clear ng1_; clear BKg2; have BKg2 := ng2_; clear ng2_; clear HB; have HB := nB_; clear nB_; clear hw; have c4_g1_0 : w4.cell? ⟨g1, 0, none⟩ = some (.string a0_0) := (kC BKg1.out 0).trans rfl; have f4_g1_0 := kF BKg1.out 0; have c4_g1_1 : w4.cell? ⟨g1, 1, none⟩ = some (.string a0_1) := (kC BKg1.out 1).trans rfl; have f4_g1_1 := kF BKg1.out 1; have c4_g1_2 : w4.cell? ⟨g1, 2, none⟩ = some (.slice A0_2 l0_2.length c0_2) := (kC BKg1.out 2).trans rfl; have f4_g1_2 := kF BKg1.out 2; have c4_g2_0 : w4.cell? ⟨g2, 0, none⟩ = some ((.string (⟨#[]⟩ : ByteArray))) := (kC BKg2.out 0).trans rfl; have f4_g2_0 := kF BKg2.out 0; have c4_g2_1 : w4.cell? ⟨g2, 1, none⟩ = some ((.string (⟨#[]⟩ : ByteArray))) := (kC BKg2.out 1).trans rfl; have f4_g2_1 := kF BKg2.out 1; have c4_g2_2 : w4.cell? ⟨g2, 2, none⟩ = some ((.slice none 0 0)) := (kC BKg2.out 2).trans rfl; have f4_g2_2 := kF BKg2.out 2))
  refine bodyPost_ret (results_ct rfl _ _ g2 24 #[.string (⟨#[]⟩ : ByteArray), .string (⟨#[]⟩ : ByteArray), .slice none 0 0] (0, 0) _ rfl BKg2.out Tryz.underlying24 rfl (by kernel_rfl)) rfl ?_
  exact ⟨rfl, HB.out⟩
set_option maxRecDepth 100000 in
set_option maxHeartbeats 8000000 in
theorem full_title (a0_0 a0_1 : ByteArray) (A0_2 : Option Addr) (c0_2 : Nat) (l0_2 : List (S31)) (w : World) (hU : UtfOk w) (first : ByteArray) (specs : List (ByteArray × List (ByteArray × RuleD))) (h : shapesD a0_0 = some (first, specs)) (hs : a0_1.size < 2147483648) (ht : titleS a0_0 a0_1 = false) :
    Calls Tryz.prog 11 #[.agg #[.string a0_0, .string a0_1, .slice A0_2 l0_2.length c0_2]] w (Refused w 61) := by
  have hu24 := Tryz.underlying24
  have HS := As.mk h
  have HU := As.mk hU
  have hf := title_f a0_0 a0_1 hs
  rw [ht] at hf
  have HTI := As.mk (fun w hw => resource_title.calls a0_0 a0_1 false w hf hw)
  have hq1 := eqlNil
  have hq2 := eqlSome
  have HB := As.mk (Below.refl w.heap.size w)
  clear h hU hf ht
  go_enter Tryz.func11, Tryz.ntmps11
  go_wp2_with (first | ((with_reducible refine gate_dst (N := 1) rfl ?_); refine box_event ?hg (N := 1) ?hd (cs := #[.string a0_0, .string a0_1, .slice A0_2 l0_2.length c0_2]) (t := 24) ?hr ?_; (case hd => rfl); (case hg => rfl); (case hr => first | (go_simp; done) | (go_simp; rfl)); intro g1 hg w1 hbox hb; have GEg1 := As.mk ((by rw [hg]; exact (bZ (by repeat (first | (with_reducible first | exact HB.out | apply bA | apply bN | apply bD) | exact HB.out))) : w.heap.size ≤ g1)); have nB_ := As.mk (bT (by repeat (first | (with_reducible first | exact HB.out | apply bA | apply bN | apply bD) | exact HB.out)) hb); clear HB; have HB := nB_; clear nB_; have BKg1 := As.mk hbox; clear hb hbox hg; have c1_g1_0 : w1.cell? ⟨g1, 0, none⟩ = some (.string a0_0) := (kC BKg1.out 0).trans rfl; have f1_g1_0 := kF BKg1.out 0; have c1_g1_1 : w1.cell? ⟨g1, 1, none⟩ = some (.string a0_1) := (kC BKg1.out 1).trans rfl; have f1_g1_1 := kF BKg1.out 1; have c1_g1_2 : w1.cell? ⟨g1, 2, none⟩ = some (.slice A0_2 l0_2.length c0_2) := (kC BKg1.out 2).trans rfl; have f1_g1_2 := kF BKg1.out 2) | ((with_reducible refine gate_dst (N := 2) rfl ?_); refine box_event ?hg (N := 2) ?hd (cs := #[.string (⟨#[]⟩ : ByteArray), .string (⟨#[]⟩ : ByteArray), .slice none 0 0]) (t := 24) ?hr ?_; (case hd => rfl); (case hg => rfl); (case hr => first | (go_simp; done) | (go_simp; rfl)); intro g2 hg w2 hbox hb; have NEg1_g2 := As.mk ((by rw [hg]; exact Nat.ne_of_lt (blk_lt (w := _) BKg1.out)) : g1 ≠ g2); have GEg2 := As.mk ((by rw [hg]; exact (bZ (by repeat (first | (with_reducible first | exact HB.out | apply bA | apply bN | apply bD | refine bS ?_ GEg1.out) | exact HB.out))) : w.heap.size ≤ g2)); have ng1_ := As.mk (kB (g := g1) (o := .cells #[.string a0_0, .string a0_1, .slice A0_2 l0_2.length c0_2] 24 (0, 0)) (by (with_reducible repeat (first | refine kN ?_ _ | refine kD ?_ | refine kA ?_ _)); exact BKg1.out) hb); have nB_ := As.mk (bT (by repeat (first | (with_reducible first | exact HB.out | apply bA | apply bN | apply bD | refine bS ?_ GEg1.out) | exact HB.out)) hb); clear BKg1; have BKg1 := ng1_; clear ng1_; clear HB; have HB := nB_; clear nB_; have BKg2 := As.mk hbox; clear hb hbox hg; have c2_g1_0 : w2.cell? ⟨g1, 0, none⟩ = some (.string a0_0) := (kC BKg1.out 0).trans rfl; have f2_g1_0 := kF BKg1.out 0; have c2_g1_1 : w2.cell? ⟨g1, 1, none⟩ = some (.string a0_1) := (kC BKg1.out 1).trans rfl; have f2_g1_1 := kF BKg1.out 1; have c2_g1_2 : w2.cell? ⟨g1, 2, none⟩ = some (.slice A0_2 l0_2.length c0_2) := (kC BKg1.out 2).trans rfl; have f2_g1_2 := kF BKg1.out 2; have c2_g2_0 : w2.cell? ⟨g2, 0, none⟩ = some (.string (⟨#[]⟩ : ByteArray)) := (kC BKg2.out 0).trans rfl; have f2_g2_0 := kF BKg2.out 0; have c2_g2_1 : w2.cell? ⟨g2, 1, none⟩ = some (.string (⟨#[]⟩ : ByteArray)) := (kC BKg2.out 1).trans rfl; have f2_g2_1 := kF BKg2.out 1; have c2_g2_2 : w2.cell? ⟨g2, 2, none⟩ = some (.slice none 0 0) := (kC BKg2.out 2).trans rfl; have f2_g2_2 := kF BKg2.out 2) | (go_at_call 27; refine (shapes_some HS.out _).mono ?_; rintro e w3 ⟨b, hi, rfl, hst⟩; have hb := hst.below; have ng1_ := As.mk (kB (g := g1) (o := .cells #[.string a0_0, .string a0_1, .slice A0_2 l0_2.length c0_2] 24 (0, 0)) (by (with_reducible repeat (first | refine kN ?_ _ | refine kD ?_ | refine kA ?_ _)); exact BKg1.out) hb); have ng2_ := As.mk (kB (g := g2) (o := .cells #[.string (⟨#[]⟩ : ByteArray), .string (⟨#[]⟩ : ByteArray), .slice none 0 0] 24 (0, 0)) (by (with_reducible repeat (first | refine kN ?_ _ | refine kD ?_ | refine kA ?_ _)); exact BKg2.out) hb); have nB_ := As.mk (bT (by repeat (first | (with_reducible first | exact HB.out | apply bA | apply bN | apply bD | refine bS ?_ GEg1.out | refine bS ?_ GEg2.out) | exact HB.out)) hb); clear BKg1; have BKg1 := ng1_; clear ng1_; clear BKg2; have BKg2 := ng2_; clear ng2_; clear HB; have HB := nB_; clear nB_; have HST := As.mk hst; clear hst; clear hb; have c3_g1_0 : w3.cell? ⟨g1, 0, none⟩ = some (.string a0_0) := (kC BKg1.out 0).trans rfl; have f3_g1_0 := kF BKg1.out 0; have c3_g1_1 : w3.cell? ⟨g1, 1, none⟩ = some (.string a0_1) := (kC BKg1.out 1).trans rfl; have f3_g1_1 := kF BKg1.out 1; have c3_g1_2 : w3.cell? ⟨g1, 2, none⟩ = some (.slice A0_2 l0_2.length c0_2) := (kC BKg1.out 2).trans rfl; have f3_g1_2 := kF BKg1.out 2; have c3_g2_0 : w3.cell? ⟨g2, 0, none⟩ = some (.string (⟨#[]⟩ : ByteArray)) := (kC BKg2.out 0).trans rfl; have f3_g2_0 := kF BKg2.out 0; have c3_g2_1 : w3.cell? ⟨g2, 1, none⟩ = some (.string (⟨#[]⟩ : ByteArray)) := (kC BKg2.out 1).trans rfl; have f3_g2_1 := kF BKg2.out 1; have c3_g2_2 : w3.cell? ⟨g2, 2, none⟩ = some (.slice none 0 0) := (kC BKg2.out 2).trans rfl; have f3_g2_2 := kF BKg2.out 2) | (go_at_call 28; refine (HTI.out _ (UtfOk.of_below HU.out ((by repeat (first | (with_reducible first | exact HB.out | apply bA | apply bN | apply bD | refine bS ?_ GEg1.out | refine bS ?_ GEg2.out) | exact HB.out))))).mono ?_; rintro e w4 ⟨rfl, hb⟩; have ng1_ := As.mk (kB (g := g1) (o := .cells #[.string a0_0, .string a0_1, .slice A0_2 l0_2.length c0_2] 24 (0, 0)) (by (with_reducible repeat (first | refine kN ?_ _ | refine kD ?_ | refine kA ?_ _)); exact BKg1.out) hb); have ng2_ := As.mk (kB (g := g2) (o := .cells #[.string (⟨#[]⟩ : ByteArray), .string (⟨#[]⟩ : ByteArray), .slice none 0 0] 24 (0, 0)) (by (with_reducible repeat (first | refine kN ?_ _ | refine kD ?_ | refine kA ?_ _)); exact BKg2.out) hb); have nB_ := As.mk (bT (by repeat (first | (with_reducible first | exact HB.out | apply bA | apply bN | apply bD | refine bS ?_ GEg1.out | refine bS ?_ GEg2.out) | exact HB.out)) hb); clear BKg1; have BKg1 := ng1_; clear ng1_; clear BKg2; have BKg2 := ng2_; clear ng2_; clear HB; have HB := nB_; clear nB_; have HST2 := As.mk (St.later HST.out hb); clear HST; have HST := HST2; clear HST2; clear hb; have c4_g1_0 : w4.cell? ⟨g1, 0, none⟩ = some (.string a0_0) := (kC BKg1.out 0).trans rfl; have f4_g1_0 := kF BKg1.out 0; have c4_g1_1 : w4.cell? ⟨g1, 1, none⟩ = some (.string a0_1) := (kC BKg1.out 1).trans rfl; have f4_g1_1 := kF BKg1.out 1; have c4_g1_2 : w4.cell? ⟨g1, 2, none⟩ = some (.slice A0_2 l0_2.length c0_2) := (kC BKg1.out 2).trans rfl; have f4_g1_2 := kF BKg1.out 2; have c4_g2_0 : w4.cell? ⟨g2, 0, none⟩ = some (.string (⟨#[]⟩ : ByteArray)) := (kC BKg2.out 0).trans rfl; have f4_g2_0 := kF BKg2.out 0; have c4_g2_1 : w4.cell? ⟨g2, 1, none⟩ = some (.string (⟨#[]⟩ : ByteArray)) := (kC BKg2.out 1).trans rfl; have f4_g2_1 := kF BKg2.out 1; have c4_g2_2 : w4.cell? ⟨g2, 2, none⟩ = some (.slice none 0 0) := (kC BKg2.out 2).trans rfl; have f4_g2_2 := kF BKg2.out 2) | ((with_reducible refine gate_store (t := 24) (p := 2) rfl ?_); refine store_event (t := 24) (p := 2) (v := ?vo5) (w1 := ?wo5) ?hg ?ho ?hn ?hr ?_; (case ho => rfl); (case hg => rfl); (case hn => rfl); (case hr => first | (go_simp; done) | (go_simp; rfl)); intro w5 hw; have ng1_ := As.mk ((by rw [hw]; (repeat refine kR ?_ NEg1_g2.out _); (with_reducible repeat (first | refine kN ?_ _ | refine kD ?_ | refine kA ?_ _)); exact BKg1.out) : w5.heap[g1]? = some (.cells #[.string a0_0, .string a0_1, .slice A0_2 l0_2.length c0_2] 24 (0, 0))); have ng2_ := As.mk ((by rw [hw]; refine kP (cs := #[(.string (⟨#[]⟩ : ByteArray)), (.string (⟨#[]⟩ : ByteArray)), .slice none 0 0]) ?_ 2 _ rfl; refine kP (cs := #[(.string (⟨#[]⟩ : ByteArray)), .string (⟨#[]⟩ : ByteArray), .slice none 0 0]) ?_ 1 _ rfl; refine kP (cs := #[.string (⟨#[]⟩ : ByteArray), .string (⟨#[]⟩ : ByteArray), .slice none 0 0]) ?_ 0 _ rfl; (with_reducible repeat (first | refine kN ?_ _ | refine kD ?_ | refine kA ?_ _)); exact BKg2.out) : w5.heap[g2]? = some (.cells #[(.string (⟨#[]⟩ : ByteArray)), (.string (⟨#[]⟩ : ByteArray)), (.slice none 0 0)] 24 (0, 0))); have nB_ := As.mk ((by rw [hw]; exact (by repeat (first | (with_reducible first | exact HB.out | apply bA | apply bN | apply bD | refine bS ?_ GEg1.out | refine bS ?_ GEg2.out) | exact HB.out))) : Below w.heap.size w w5); clear BKg1; have BKg1 := ng1_; clear ng1_; clear BKg2; have BKg2 := ng2_; clear ng2_; clear HB; have HB := nB_; clear nB_; clear hw; have c5_g1_0 : w5.cell? ⟨g1, 0, none⟩ = some (.string a0_0) := (kC BKg1.out 0).trans rfl; have f5_g1_0 := kF BKg1.out 0; have c5_g1_1 : w5.cell? ⟨g1, 1, none⟩ = some (.string a0_1) := (kC BKg1.out 1).trans rfl; have f5_g1_1 := kF BKg1.out 1; have c5_g1_2 : w5.cell? ⟨g1, 2, none⟩ = some (.slice A0_2 l0_2.length c0_2) := (kC BKg1.out 2).trans rfl; have f5_g1_2 := kF BKg1.out 2; have c5_g2_0 : w5.cell? ⟨g2, 0, none⟩ = some ((.string (⟨#[]⟩ : ByteArray))) := (kC BKg2.out 0).trans rfl; have f5_g2_0 := kF BKg2.out 0; have c5_g2_1 : w5.cell? ⟨g2, 1, none⟩ = some ((.string (⟨#[]⟩ : ByteArray))) := (kC BKg2.out 1).trans rfl; have f5_g2_1 := kF BKg2.out 1; have c5_g2_2 : w5.cell? ⟨g2, 2, none⟩ = some ((.slice none 0 0)) := (kC BKg2.out 2).trans rfl; have f5_g2_2 := kF BKg2.out 2))
  refine bodyPost_ret (results_ct rfl _ _ g2 24 #[.string (⟨#[]⟩ : ByteArray), .string (⟨#[]⟩ : ByteArray), .slice none 0 0] (0, 0) _ rfl BKg2.out Tryz.underlying24 rfl (by kernel_rfl)) rfl ?_
  exact ⟨rfl, HB.out⟩
end Go.Proofs.YtkgafkoopefghaaGreatDoor.PA
end
section
set_option linter.unusedVariables false
set_option linter.unusedSimpArgs false
namespace Go.Proofs.YtkgafkoopefghaaGreatDoor.PA
open Go.RowKit Go.Maps Go.WideMaps Go.Proofs.YtkgafkoopefghaaGreatDoor.Hk Go.Proofs.YtkgafkoopefghaaGreatDoorW.PrintWords
def tidyS (specs : List (ByteArray × List (ByteArray × RuleD))) : Bool := once specs && specs.all fun x => once x.2 && (findK x.2 ensB).isNone && decide (x.2.length ≤ 8) && x.2.all fun y => decide (y.1.size ≤ 16)
theorem tidy_shapes {kind first : ByteArray} {specs : List (ByteArray × List (ByteArray × RuleD))} (h : shapesD kind = some (first, specs)) : tidyS specs = true ∧ first.size < 2147483648 := by
  unfold shapesD at h
  by_cases c0 : kind = ⟨#[102, 105, 108, 101]⟩
  · rw [if_pos c0] at h; cases h; exact ⟨rfl, by decide⟩
  rw [if_neg c0] at h
  by_cases c1 : kind = ⟨#[97, 99, 99, 111, 117, 110, 116]⟩
  · rw [if_pos c1] at h; cases h; exact ⟨rfl, by decide⟩
  rw [if_neg c1] at h
  by_cases c2 : kind = ⟨#[103, 114, 111, 117, 112]⟩
  · rw [if_pos c2] at h; cases h; exact ⟨rfl, by decide⟩
  rw [if_neg c2] at h
  by_cases c3 : kind = ⟨#[112, 97, 99, 107, 97, 103, 101]⟩
  · rw [if_pos c3] at h; cases h; exact ⟨rfl, by decide⟩
  rw [if_neg c3] at h
  by_cases c4 : kind = ⟨#[115, 101, 114, 118, 105, 99, 101]⟩
  · rw [if_pos c4] at h; cases h; exact ⟨rfl, by decide⟩
  rw [if_neg c4] at h
  cases h
theorem findK_mem {α : Type} {s : ByteArray} {x : α} : ∀ {l : List (ByteArray × α)}, findK l s = some x → (s, x) ∈ l
  | [], h => by cases h
  | p :: l, h => by
    unfold findK at h
    by_cases e : s = p.1
    · rw [if_pos e] at h; cases h; subst e; exact .head _
    · rw [if_neg e] at h; exact .tail _ (findK_mem h)
theorem tidy_row {specs : List (ByteArray × List (ByteArray × RuleD))} (h : tidyS specs = true) {ens : ByteArray} {rs : List (ByteArray × RuleD)} (hf : findK specs ens = some rs) : once rs = true ∧ findK rs ensB = none ∧ rs.length ≤ 8 ∧ ∀ y, y ∈ rs → y.1.size ≤ 16 := by
  unfold tidyS at h
  simp only [Bool.and_eq_true, List.all_eq_true, decide_eq_true_iff] at h
  have := h.2 _ (findK_mem hf)
  exact ⟨this.1.1.1, by simpa using this.1.1.2, this.1.2, this.2⟩
section
variable {w : World} {ops : Array Oper} {rest : List Oper} {o : Oper} {a : Act} {Q : Exit → Act → World → Prop} {w0 : World} {b0 hi : Nat} {specs : List (ByteArray × List (ByteArray × RuleD))} {rs : List (ByteArray × RuleD)}
theorem zero_shape (w : World) : (zeroValue 61).run Tryz.prog w = .ok (.map none) w := by kernel_rfl
theorem zero_rule (w : World) : (zeroValue 68).run Tryz.prog w = .ok (.agg #[.string ⟨#[]⟩, .bool false, .nilFunc]) w := by kernel_rfl
theorem look_row_none (h : St w0 w b0 hi specs) (ht : tidyS specs = true) (hg : o.guard = none) (m x : Operand) (hop : o.op = Op.lookup 54 m x true) (hm : a.eval m = .map (some b0)) (s : ByteArray) (hx : a.eval x = .string s) (hs : s.size < 2147483648)
    (hf : findK specs s = none) (hK : wpList Tryz.prog ops Q rest (a.put o.dst (.tuple #[.map none, .bool false])) w) : wpList Tryz.prog ops Q (o :: rest) a w := by
  obtain ⟨n, l, _, hown, hka⟩ := h.own
  have hol : once l = true := by
    unfold tidyS at ht
    simp only [Bool.and_eq_true] at ht
    rw [← once_all hka]; exact ht.1
  refine wpList_look_held w hg m x _ hop _ _ Tryz.underlying9 Tryz.underlying54 _ (zero_shape w) b0 n _ hm hown s hx (by unfold maxLen; omega) fun v hv => ?_
  rcases findK_all s hka with ⟨_, h2⟩ | ⟨x, y, h1, _⟩
  · rw [putL_at hol, h2] at hv
    cases hv
    rw [putL_has hol, h2]
    exact hK
  · rw [hf] at h1; cases h1
theorem look_row_some (h : St w0 w b0 hi specs) (ht : tidyS specs = true) (hg : o.guard = none) (m x : Operand) (hop : o.op = Op.lookup 54 m x true) (hm : a.eval m = .map (some b0)) (s : ByteArray) (hx : a.eval x = .string s) (hs : s.size < 2147483648)
    (hf : findK specs s = some rs) (hK : ∀ b n l, w.ownsMap Tryz.prog 9 heldR b n (putL l) → n ≤ 8 → KeyAll (RuleOk w) rs l → wpList Tryz.prog ops Q rest (a.put o.dst (.tuple #[.map (some b), .bool true])) w) : wpList Tryz.prog ops Q (o :: rest) a w := by
  obtain ⟨n, l, _, hown, hka⟩ := h.own
  have hol : once l = true := by
    unfold tidyS at ht
    simp only [Bool.and_eq_true] at ht
    rw [← once_all hka]; exact ht.1
  refine wpList_look_held w hg m x _ hop _ _ Tryz.underlying9 Tryz.underlying54 _ (zero_shape w) b0 n _ hm hown s hx (by unfold maxLen; omega) fun v hv => ?_
  rcases findK_all s hka with ⟨h1, _⟩ | ⟨x, y, h1, h2, b, n', l', e, _, _, hn, ho, hk⟩
  · rw [hf] at h1; cases h1
  · rw [hf] at h1
    cases h1
    rw [putL_at hol, h2] at hv
    cases hv
    rw [putL_has hol, h2, e]
    exact hK b n' l' ho hn hk
theorem look_rule_none {W0 : World} {b n : Nat} {l : List (ByteArray × Value)} (hown : w.ownsMap Tryz.prog 9 heldR b n (putL l)) (hka : KeyAll (RuleOk W0) rs l) (ht : once rs = true) (hg : o.guard = none) (m x : Operand) (hop : o.op = Op.lookup 61 m x true) (hm : a.eval m = .map (some b)) (s : ByteArray) (hx : a.eval x = .string s) (hs : s.size < 2147483648)
    (hf : findK rs s = none) (hK : wpList Tryz.prog ops Q rest (a.put o.dst (.tuple #[.agg #[.string ⟨#[]⟩, .bool false, .nilFunc], .bool false])) w) : wpList Tryz.prog ops Q (o :: rest) a w := by
  have hol : once l = true := by rw [← once_all hka]; exact ht
  refine wpList_look_held w hg m x _ hop _ _ Tryz.underlying9 Tryz.underlying61 _ (zero_rule w) b n _ hm hown s hx (by unfold maxLen; omega) fun v hv => ?_
  rcases findK_all s hka with ⟨_, h2⟩ | ⟨x, y, h1, _⟩
  · rw [putL_at hol, h2] at hv
    cases hv
    rw [putL_has hol, h2]
    exact hK
  · rw [hf] at h1; cases h1
theorem look_rule_some {W0 : World} {b n : Nat} {l : List (ByteArray × Value)} (hown : w.ownsMap Tryz.prog 9 heldR b n (putL l)) (hka : KeyAll (RuleOk W0) rs l) (ht : once rs = true) (hg : o.guard = none) (m x : Operand) (hop : o.op = Op.lookup 61 m x true) (hm : a.eval m = .map (some b)) (s : ByteArray) (hx : a.eval x = .string s) (hs : s.size < 2147483648)
    (q : RuleD) (hf : findK rs s = some q) (hK : ∀ g lb cells, (∀ args w, (callFunc g args).run Tryz.prog w = .ok (.enter g args) w) → MayC g lb q.may cells → (∀ c, c ∈ cells → W0.cell? c.1 = some c.2) → wpList Tryz.prog ops Q rest (a.put o.dst (.tuple #[.agg #[.string q.dflt, .bool q.must, .func (.func g) #[] lb], .bool true])) w) : wpList Tryz.prog ops Q (o :: rest) a w := by
  have hol : once l = true := by rw [← once_all hka]; exact ht
  refine wpList_look_held w hg m x _ hop _ _ Tryz.underlying9 Tryz.underlying61 _ (zero_rule w) b n _ hm hown s hx (by unfold maxLen; omega) fun v hv => ?_
  rcases findK_all s hka with ⟨h1, _⟩ | ⟨x, y, h1, h2, g, lb, cells, e, eg, hm', hc⟩
  · rw [hf] at h1; cases h1
  · rw [hf] at h1
    cases h1
    rw [putL_at hol, h2] at hv
    cases hv
    rw [putL_has hol, h2, e]
    exact hK g lb cells eg hm' hc
end
end Go.Proofs.YtkgafkoopefghaaGreatDoor.PA
end
section
set_option linter.unusedVariables false
set_option linter.unusedSimpArgs false
namespace Go.Proofs.YtkgafkoopefghaaGreatDoor.PA
open Go.RowKit Go.Maps Go.WideMaps Go.Proofs.YtkgafkoopefghaaGreatDoor.Hk Go.Proofs.YtkgafkoopefghaaGreatDoorW.PrintWords
set_option maxRecDepth 100000 in
set_option maxHeartbeats 16000000 in
theorem full_ensure (a0_0 a0_1 : ByteArray) (A0_2 : Option Addr) (c0_2 : Nat) (l0_2 : List (S31)) (w : World) (hU : UtfOk w) (hr0_2 : Kd.C k31 w A0_2 l0_2.length l0_2) (hc0_2 : l0_2.length ≤ c0_2) (hlen : l0_2.length < 2147483648) (first : ByteArray) (specs : List (ByteArray × List (ByteArray × RuleD))) (h : shapesD a0_0 = some (first, specs)) (hs : a0_1.size < 2147483648) (ht : titleS a0_0 a0_1 = true) (r1 : ByteArray) (r2 : Bool) (hget : toldR (getS l0_2 ensB) = (r1, r2)) (ens : ByteArray) (he : ens = if r2 = true then r1 else first) (hes : ens.size < 2147483648) (hn : findK specs ens = none) :
    Calls Tryz.prog 11 #[.agg #[.string a0_0, .string a0_1, .slice A0_2 l0_2.length c0_2]] w (Refused w 62) := by
  have hu24 := Tryz.underlying24
  have HS := As.mk h
  have HU := As.mk hU
  have HR := As.mk hr0_2
  have HC := As.mk hc0_2
  have HTY := As.mk (tidy_shapes h).1
  have hf := title_f a0_0 a0_1 hs
  rw [ht] at hf
  have HTI := As.mk (fun w hw => resource_title.calls a0_0 a0_1 true w hf hw)
  have hg := get_f a0_0 a0_1 ensB l0_2 (by omega)
  rw [hget] at hg
  have HG := As.mk hg
  have HES := As.mk hes
  have hq1 := eqlNil
  have hq2 := eqlSome
  have HB := As.mk (Below.refl w.heap.size w)
  have HN := As.mk hn
  clear h hU hf ht hg hn hr0_2 hc0_2 hget hes
  cases r2
  · obtain rfl : ens = first := he
    go_enter Tryz.func11, Tryz.ntmps11
    go_wp2_with (first | ((with_reducible refine gate_dst (N := 1) rfl ?_); refine box_event ?hg (N := 1) ?hd (cs := #[.string a0_0, .string a0_1, .slice A0_2 l0_2.length c0_2]) (t := 24) ?hr ?_; (case hd => rfl); (case hg => rfl); (case hr => first | (go_simp; done) | (go_simp; rfl)); intro g1 hg w1 hbox hb; have GEg1 := As.mk ((by rw [hg]; exact (bZ (by repeat (first | (with_reducible first | exact HB.out | apply bA | apply bN | apply bD) | exact HB.out))) : w.heap.size ≤ g1)); have nB_ := As.mk (bT (by repeat (first | (with_reducible first | exact HB.out | apply bA | apply bN | apply bD) | exact HB.out)) hb); clear HB; have HB := nB_; clear nB_; have BKg1 := As.mk hbox; clear hb hbox hg; have c1_g1_0 : w1.cell? ⟨g1, 0, none⟩ = some (.string a0_0) := (kC BKg1.out 0).trans rfl; have f1_g1_0 := kF BKg1.out 0; have c1_g1_1 : w1.cell? ⟨g1, 1, none⟩ = some (.string a0_1) := (kC BKg1.out 1).trans rfl; have f1_g1_1 := kF BKg1.out 1; have c1_g1_2 : w1.cell? ⟨g1, 2, none⟩ = some (.slice A0_2 l0_2.length c0_2) := (kC BKg1.out 2).trans rfl; have f1_g1_2 := kF BKg1.out 2) | ((with_reducible refine gate_dst (N := 2) rfl ?_); refine box_event ?hg (N := 2) ?hd (cs := #[.string (⟨#[]⟩ : ByteArray), .string (⟨#[]⟩ : ByteArray), .slice none 0 0]) (t := 24) ?hr ?_; (case hd => rfl); (case hg => rfl); (case hr => first | (go_simp; done) | (go_simp; rfl)); intro g2 hg w2 hbox hb; have NEg1_g2 := As.mk ((by rw [hg]; exact Nat.ne_of_lt (blk_lt (w := _) BKg1.out)) : g1 ≠ g2); have GEg2 := As.mk ((by rw [hg]; exact (bZ (by repeat (first | (with_reducible first | exact HB.out | apply bA | apply bN | apply bD | refine bS ?_ GEg1.out) | exact HB.out))) : w.heap.size ≤ g2)); have ng1_ := As.mk (kB (g := g1) (o := .cells #[.string a0_0, .string a0_1, .slice A0_2 l0_2.length c0_2] 24 (0, 0)) (by (with_reducible repeat (first | refine kN ?_ _ | refine kD ?_ | refine kA ?_ _)); exact BKg1.out) hb); have nB_ := As.mk (bT (by repeat (first | (with_reducible first | exact HB.out | apply bA | apply bN | apply bD | refine bS ?_ GEg1.out) | exact HB.out)) hb); clear BKg1; have BKg1 := ng1_; clear ng1_; clear HB; have HB := nB_; clear nB_; have BKg2 := As.mk hbox; clear hb hbox hg; have c2_g1_0 : w2.cell? ⟨g1, 0, none⟩ = some (.string a0_0) := (kC BKg1.out 0).trans rfl; have f2_g1_0 := kF BKg1.out 0; have c2_g1_1 : w2.cell? ⟨g1, 1, none⟩ = some (.string a0_1) := (kC BKg1.out 1).trans rfl; have f2_g1_1 := kF BKg1.out 1; have c2_g1_2 : w2.cell? ⟨g1, 2, none⟩ = some (.slice A0_2 l0_2.length c0_2) := (kC BKg1.out 2).trans rfl; have f2_g1_2 := kF BKg1.out 2; have c2_g2_0 : w2.cell? ⟨g2, 0, none⟩ = some (.string (⟨#[]⟩ : ByteArray)) := (kC BKg2.out 0).trans rfl; have f2_g2_0 := kF BKg2.out 0; have c2_g2_1 : w2.cell? ⟨g2, 1, none⟩ = some (.string (⟨#[]⟩ : ByteArray)) := (kC BKg2.out 1).trans rfl; have f2_g2_1 := kF BKg2.out 1; have c2_g2_2 : w2.cell? ⟨g2, 2, none⟩ = some (.slice none 0 0) := (kC BKg2.out 2).trans rfl; have f2_g2_2 := kF BKg2.out 2) | (go_at_call 27; refine (shapes_some HS.out _).mono ?_; rintro e w3 ⟨b, hi, rfl, hst⟩; have hb := hst.below; have ng1_ := As.mk (kB (g := g1) (o := .cells #[.string a0_0, .string a0_1, .slice A0_2 l0_2.length c0_2] 24 (0, 0)) (by (with_reducible repeat (first | refine kN ?_ _ | refine kD ?_ | refine kA ?_ _)); exact BKg1.out) hb); have ng2_ := As.mk (kB (g := g2) (o := .cells #[.string (⟨#[]⟩ : ByteArray), .string (⟨#[]⟩ : ByteArray), .slice none 0 0] 24 (0, 0)) (by (with_reducible repeat (first | refine kN ?_ _ | refine kD ?_ | refine kA ?_ _)); exact BKg2.out) hb); have nB_ := As.mk (bT (by repeat (first | (with_reducible first | exact HB.out | apply bA | apply bN | apply bD | refine bS ?_ GEg1.out | refine bS ?_ GEg2.out) | exact HB.out)) hb); clear BKg1; have BKg1 := ng1_; clear ng1_; clear BKg2; have BKg2 := ng2_; clear ng2_; clear HB; have HB := nB_; clear nB_; have HST := As.mk hst; clear hst; clear hb; have c3_g1_0 : w3.cell? ⟨g1, 0, none⟩ = some (.string a0_0) := (kC BKg1.out 0).trans rfl; have f3_g1_0 := kF BKg1.out 0; have c3_g1_1 : w3.cell? ⟨g1, 1, none⟩ = some (.string a0_1) := (kC BKg1.out 1).trans rfl; have f3_g1_1 := kF BKg1.out 1; have c3_g1_2 : w3.cell? ⟨g1, 2, none⟩ = some (.slice A0_2 l0_2.length c0_2) := (kC BKg1.out 2).trans rfl; have f3_g1_2 := kF BKg1.out 2; have c3_g2_0 : w3.cell? ⟨g2, 0, none⟩ = some (.string (⟨#[]⟩ : ByteArray)) := (kC BKg2.out 0).trans rfl; have f3_g2_0 := kF BKg2.out 0; have c3_g2_1 : w3.cell? ⟨g2, 1, none⟩ = some (.string (⟨#[]⟩ : ByteArray)) := (kC BKg2.out 1).trans rfl; have f3_g2_1 := kF BKg2.out 1; have c3_g2_2 : w3.cell? ⟨g2, 2, none⟩ = some (.slice none 0 0) := (kC BKg2.out 2).trans rfl; have f3_g2_2 := kF BKg2.out 2) | (go_at_call 28; refine (HTI.out _ (UtfOk.of_below HU.out ((by repeat (first | (with_reducible first | exact HB.out | apply bA | apply bN | apply bD | refine bS ?_ GEg1.out | refine bS ?_ GEg2.out) | exact HB.out))))).mono ?_; rintro e w4 ⟨rfl, hb⟩; have ng1_ := As.mk (kB (g := g1) (o := .cells #[.string a0_0, .string a0_1, .slice A0_2 l0_2.length c0_2] 24 (0, 0)) (by (with_reducible repeat (first | refine kN ?_ _ | refine kD ?_ | refine kA ?_ _)); exact BKg1.out) hb); have ng2_ := As.mk (kB (g := g2) (o := .cells #[.string (⟨#[]⟩ : ByteArray), .string (⟨#[]⟩ : ByteArray), .slice none 0 0] 24 (0, 0)) (by (with_reducible repeat (first | refine kN ?_ _ | refine kD ?_ | refine kA ?_ _)); exact BKg2.out) hb); have nB_ := As.mk (bT (by repeat (first | (with_reducible first | exact HB.out | apply bA | apply bN | apply bD | refine bS ?_ GEg1.out | refine bS ?_ GEg2.out) | exact HB.out)) hb); clear BKg1; have BKg1 := ng1_; clear ng1_; clear BKg2; have BKg2 := ng2_; clear ng2_; clear HB; have HB := nB_; clear nB_; have HST2 := As.mk (St.later HST.out hb); clear HST; have HST := HST2; clear HST2; clear hb; have c4_g1_0 : w4.cell? ⟨g1, 0, none⟩ = some (.string a0_0) := (kC BKg1.out 0).trans rfl; have f4_g1_0 := kF BKg1.out 0; have c4_g1_1 : w4.cell? ⟨g1, 1, none⟩ = some (.string a0_1) := (kC BKg1.out 1).trans rfl; have f4_g1_1 := kF BKg1.out 1; have c4_g1_2 : w4.cell? ⟨g1, 2, none⟩ = some (.slice A0_2 l0_2.length c0_2) := (kC BKg1.out 2).trans rfl; have f4_g1_2 := kF BKg1.out 2; have c4_g2_0 : w4.cell? ⟨g2, 0, none⟩ = some (.string (⟨#[]⟩ : ByteArray)) := (kC BKg2.out 0).trans rfl; have f4_g2_0 := kF BKg2.out 0; have c4_g2_1 : w4.cell? ⟨g2, 1, none⟩ = some (.string (⟨#[]⟩ : ByteArray)) := (kC BKg2.out 1).trans rfl; have f4_g2_1 := kF BKg2.out 1; have c4_g2_2 : w4.cell? ⟨g2, 2, none⟩ = some (.slice none 0 0) := (kC BKg2.out 2).trans rfl; have f4_g2_2 := kF BKg2.out 2) | (go_at_call 29; refine (resource_Get.calls _ a0_0 a0_1 A0_2 c0_2 l0_2 _ _ _ _ (Kd.C_below HR.out (by repeat (first | (with_reducible first | exact HB.out | apply bA | apply bN | apply bD | refine bS ?_ GEg1.out | refine bS ?_ GEg2.out) | exact HB.out))) HC.out HG.out).mono ?_; rintro e w5 ⟨rfl, hb⟩; have ng1_ := As.mk (kB (g := g1) (o := .cells #[.string a0_0, .string a0_1, .slice A0_2 l0_2.length c0_2] 24 (0, 0)) (by (with_reducible repeat (first | refine kN ?_ _ | refine kD ?_ | refine kA ?_ _)); exact BKg1.out) hb); have ng2_ := As.mk (kB (g := g2) (o := .cells #[.string (⟨#[]⟩ : ByteArray), .string (⟨#[]⟩ : ByteArray), .slice none 0 0] 24 (0, 0)) (by (with_reducible repeat (first | refine kN ?_ _ | refine kD ?_ | refine kA ?_ _)); exact BKg2.out) hb); have nB_ := As.mk (bT (by repeat (first | (with_reducible first | exact HB.out | apply bA | apply bN | apply bD | refine bS ?_ GEg1.out | refine bS ?_ GEg2.out) | exact HB.out)) hb); clear BKg1; have BKg1 := ng1_; clear ng1_; clear BKg2; have BKg2 := ng2_; clear ng2_; clear HB; have HB := nB_; clear nB_; have HST2 := As.mk (St.later HST.out hb); clear HST; have HST := HST2; clear HST2; clear hb; have c5_g1_0 : w5.cell? ⟨g1, 0, none⟩ = some (.string a0_0) := (kC BKg1.out 0).trans rfl; have f5_g1_0 := kF BKg1.out 0; have c5_g1_1 : w5.cell? ⟨g1, 1, none⟩ = some (.string a0_1) := (kC BKg1.out 1).trans rfl; have f5_g1_1 := kF BKg1.out 1; have c5_g1_2 : w5.cell? ⟨g1, 2, none⟩ = some (.slice A0_2 l0_2.length c0_2) := (kC BKg1.out 2).trans rfl; have f5_g1_2 := kF BKg1.out 2; have c5_g2_0 : w5.cell? ⟨g2, 0, none⟩ = some (.string (⟨#[]⟩ : ByteArray)) := (kC BKg2.out 0).trans rfl; have f5_g2_0 := kF BKg2.out 0; have c5_g2_1 : w5.cell? ⟨g2, 1, none⟩ = some (.string (⟨#[]⟩ : ByteArray)) := (kC BKg2.out 1).trans rfl; have f5_g2_1 := kF BKg2.out 1; have c5_g2_2 : w5.cell? ⟨g2, 2, none⟩ = some (.slice none 0 0) := (kC BKg2.out 2).trans rfl; have f5_g2_2 := kF BKg2.out 2) | ((with_reducible refine gate_store (t := 24) (p := 2) rfl ?_); refine store_event (t := 24) (p := 2) (v := ?vo6) (w1 := ?wo6) ?hg ?ho ?hn ?hr ?_; (case ho => rfl); (case hg => rfl); (case hn => rfl); (case hr => first | (go_simp; done) | (go_simp; rfl)); intro w6 hw; have ng1_ := As.mk ((by rw [hw]; (repeat refine kR ?_ NEg1_g2.out _); (with_reducible repeat (first | refine kN ?_ _ | refine kD ?_ | refine kA ?_ _)); exact BKg1.out) : w6.heap[g1]? = some (.cells #[.string a0_0, .string a0_1, .slice A0_2 l0_2.length c0_2] 24 (0, 0))); have ng2_ := As.mk ((by rw [hw]; refine kP (cs := #[(.string (⟨#[]⟩ : ByteArray)), (.string (⟨#[]⟩ : ByteArray)), .slice none 0 0]) ?_ 2 _ rfl; refine kP (cs := #[(.string (⟨#[]⟩ : ByteArray)), .string (⟨#[]⟩ : ByteArray), .slice none 0 0]) ?_ 1 _ rfl; refine kP (cs := #[.string (⟨#[]⟩ : ByteArray), .string (⟨#[]⟩ : ByteArray), .slice none 0 0]) ?_ 0 _ rfl; (with_reducible repeat (first | refine kN ?_ _ | refine kD ?_ | refine kA ?_ _)); exact BKg2.out) : w6.heap[g2]? = some (.cells #[(.string (⟨#[]⟩ : ByteArray)), (.string (⟨#[]⟩ : ByteArray)), (.slice none 0 0)] 24 (0, 0))); have nB_ := As.mk ((by rw [hw]; exact (by repeat (first | (with_reducible first | exact HB.out | apply bA | apply bN | apply bD | refine bS ?_ GEg1.out | refine bS ?_ GEg2.out) | exact HB.out))) : Below w.heap.size w w6); clear BKg1; have BKg1 := ng1_; clear ng1_; clear BKg2; have BKg2 := ng2_; clear ng2_; clear HB; have HB := nB_; clear nB_; clear hw; have c6_g1_0 : w6.cell? ⟨g1, 0, none⟩ = some (.string a0_0) := (kC BKg1.out 0).trans rfl; have f6_g1_0 := kF BKg1.out 0; have c6_g1_1 : w6.cell? ⟨g1, 1, none⟩ = some (.string a0_1) := (kC BKg1.out 1).trans rfl; have f6_g1_1 := kF BKg1.out 1; have c6_g1_2 : w6.cell? ⟨g1, 2, none⟩ = some (.slice A0_2 l0_2.length c0_2) := (kC BKg1.out 2).trans rfl; have f6_g1_2 := kF BKg1.out 2; have c6_g2_0 : w6.cell? ⟨g2, 0, none⟩ = some ((.string (⟨#[]⟩ : ByteArray))) := (kC BKg2.out 0).trans rfl; have f6_g2_0 := kF BKg2.out 0; have c6_g2_1 : w6.cell? ⟨g2, 1, none⟩ = some ((.string (⟨#[]⟩ : ByteArray))) := (kC BKg2.out 1).trans rfl; have f6_g2_1 := kF BKg2.out 1; have c6_g2_2 : w6.cell? ⟨g2, 2, none⟩ = some ((.slice none 0 0)) := (kC BKg2.out 2).trans rfl; have f6_g2_2 := kF BKg2.out 2) | ((with_reducible refine gate_look rfl ?_); refine look_row_none HST.out HTY.out rfl _ _ rfl rfl _ rfl HES.out HN.out ?_))
    refine bodyPost_ret (results_ct rfl _ _ g2 24 #[.string (⟨#[]⟩ : ByteArray), .string (⟨#[]⟩ : ByteArray), .slice none 0 0] (0, 0) _ rfl BKg2.out Tryz.underlying24 rfl (by kernel_rfl)) rfl ?_
    exact ⟨rfl, HB.out⟩
  · obtain rfl : ens = r1 := he
    go_enter Tryz.func11, Tryz.ntmps11
    go_wp2_with (first | ((with_reducible refine gate_dst (N := 1) rfl ?_); refine box_event ?hg (N := 1) ?hd (cs := #[.string a0_0, .string a0_1, .slice A0_2 l0_2.length c0_2]) (t := 24) ?hr ?_; (case hd => rfl); (case hg => rfl); (case hr => first | (go_simp; done) | (go_simp; rfl)); intro g1 hg w51 hbox hb; have GEg1 := As.mk ((by rw [hg]; exact (bZ (by repeat (first | (with_reducible first | exact HB.out | apply bA | apply bN | apply bD) | exact HB.out))) : w.heap.size ≤ g1)); have nB_ := As.mk (bT (by repeat (first | (with_reducible first | exact HB.out | apply bA | apply bN | apply bD) | exact HB.out)) hb); clear HB; have HB := nB_; clear nB_; have BKg1 := As.mk hbox; clear hb hbox hg; have c51_g1_0 : w51.cell? ⟨g1, 0, none⟩ = some (.string a0_0) := (kC BKg1.out 0).trans rfl; have f51_g1_0 := kF BKg1.out 0; have c51_g1_1 : w51.cell? ⟨g1, 1, none⟩ = some (.string a0_1) := (kC BKg1.out 1).trans rfl; have f51_g1_1 := kF BKg1.out 1; have c51_g1_2 : w51.cell? ⟨g1, 2, none⟩ = some (.slice A0_2 l0_2.length c0_2) := (kC BKg1.out 2).trans rfl; have f51_g1_2 := kF BKg1.out 2) | ((with_reducible refine gate_dst (N := 2) rfl ?_); refine box_event ?hg (N := 2) ?hd (cs := #[.string (⟨#[]⟩ : ByteArray), .string (⟨#[]⟩ : ByteArray), .slice none 0 0]) (t := 24) ?hr ?_; (case hd => rfl); (case hg => rfl); (case hr => first | (go_simp; done) | (go_simp; rfl)); intro g2 hg w52 hbox hb; have NEg1_g2 := As.mk ((by rw [hg]; exact Nat.ne_of_lt (blk_lt (w := _) BKg1.out)) : g1 ≠ g2); have GEg2 := As.mk ((by rw [hg]; exact (bZ (by repeat (first | (with_reducible first | exact HB.out | apply bA | apply bN | apply bD | refine bS ?_ GEg1.out) | exact HB.out))) : w.heap.size ≤ g2)); have ng1_ := As.mk (kB (g := g1) (o := .cells #[.string a0_0, .string a0_1, .slice A0_2 l0_2.length c0_2] 24 (0, 0)) (by (with_reducible repeat (first | refine kN ?_ _ | refine kD ?_ | refine kA ?_ _)); exact BKg1.out) hb); have nB_ := As.mk (bT (by repeat (first | (with_reducible first | exact HB.out | apply bA | apply bN | apply bD | refine bS ?_ GEg1.out) | exact HB.out)) hb); clear BKg1; have BKg1 := ng1_; clear ng1_; clear HB; have HB := nB_; clear nB_; have BKg2 := As.mk hbox; clear hb hbox hg; have c52_g1_0 : w52.cell? ⟨g1, 0, none⟩ = some (.string a0_0) := (kC BKg1.out 0).trans rfl; have f52_g1_0 := kF BKg1.out 0; have c52_g1_1 : w52.cell? ⟨g1, 1, none⟩ = some (.string a0_1) := (kC BKg1.out 1).trans rfl; have f52_g1_1 := kF BKg1.out 1; have c52_g1_2 : w52.cell? ⟨g1, 2, none⟩ = some (.slice A0_2 l0_2.length c0_2) := (kC BKg1.out 2).trans rfl; have f52_g1_2 := kF BKg1.out 2; have c52_g2_0 : w52.cell? ⟨g2, 0, none⟩ = some (.string (⟨#[]⟩ : ByteArray)) := (kC BKg2.out 0).trans rfl; have f52_g2_0 := kF BKg2.out 0; have c52_g2_1 : w52.cell? ⟨g2, 1, none⟩ = some (.string (⟨#[]⟩ : ByteArray)) := (kC BKg2.out 1).trans rfl; have f52_g2_1 := kF BKg2.out 1; have c52_g2_2 : w52.cell? ⟨g2, 2, none⟩ = some (.slice none 0 0) := (kC BKg2.out 2).trans rfl; have f52_g2_2 := kF BKg2.out 2) | (go_at_call 27; refine (shapes_some HS.out _).mono ?_; rintro e w53 ⟨b, hi, rfl, hst⟩; have hb := hst.below; have ng1_ := As.mk (kB (g := g1) (o := .cells #[.string a0_0, .string a0_1, .slice A0_2 l0_2.length c0_2] 24 (0, 0)) (by (with_reducible repeat (first | refine kN ?_ _ | refine kD ?_ | refine kA ?_ _)); exact BKg1.out) hb); have ng2_ := As.mk (kB (g := g2) (o := .cells #[.string (⟨#[]⟩ : ByteArray), .string (⟨#[]⟩ : ByteArray), .slice none 0 0] 24 (0, 0)) (by (with_reducible repeat (first | refine kN ?_ _ | refine kD ?_ | refine kA ?_ _)); exact BKg2.out) hb); have nB_ := As.mk (bT (by repeat (first | (with_reducible first | exact HB.out | apply bA | apply bN | apply bD | refine bS ?_ GEg1.out | refine bS ?_ GEg2.out) | exact HB.out)) hb); clear BKg1; have BKg1 := ng1_; clear ng1_; clear BKg2; have BKg2 := ng2_; clear ng2_; clear HB; have HB := nB_; clear nB_; have HST := As.mk hst; clear hst; clear hb; have c53_g1_0 : w53.cell? ⟨g1, 0, none⟩ = some (.string a0_0) := (kC BKg1.out 0).trans rfl; have f53_g1_0 := kF BKg1.out 0; have c53_g1_1 : w53.cell? ⟨g1, 1, none⟩ = some (.string a0_1) := (kC BKg1.out 1).trans rfl; have f53_g1_1 := kF BKg1.out 1; have c53_g1_2 : w53.cell? ⟨g1, 2, none⟩ = some (.slice A0_2 l0_2.length c0_2) := (kC BKg1.out 2).trans rfl; have f53_g1_2 := kF BKg1.out 2; have c53_g2_0 : w53.cell? ⟨g2, 0, none⟩ = some (.string (⟨#[]⟩ : ByteArray)) := (kC BKg2.out 0).trans rfl; have f53_g2_0 := kF BKg2.out 0; have c53_g2_1 : w53.cell? ⟨g2, 1, none⟩ = some (.string (⟨#[]⟩ : ByteArray)) := (kC BKg2.out 1).trans rfl; have f53_g2_1 := kF BKg2.out 1; have c53_g2_2 : w53.cell? ⟨g2, 2, none⟩ = some (.slice none 0 0) := (kC BKg2.out 2).trans rfl; have f53_g2_2 := kF BKg2.out 2) | (go_at_call 28; refine (HTI.out _ (UtfOk.of_below HU.out ((by repeat (first | (with_reducible first | exact HB.out | apply bA | apply bN | apply bD | refine bS ?_ GEg1.out | refine bS ?_ GEg2.out) | exact HB.out))))).mono ?_; rintro e w54 ⟨rfl, hb⟩; have ng1_ := As.mk (kB (g := g1) (o := .cells #[.string a0_0, .string a0_1, .slice A0_2 l0_2.length c0_2] 24 (0, 0)) (by (with_reducible repeat (first | refine kN ?_ _ | refine kD ?_ | refine kA ?_ _)); exact BKg1.out) hb); have ng2_ := As.mk (kB (g := g2) (o := .cells #[.string (⟨#[]⟩ : ByteArray), .string (⟨#[]⟩ : ByteArray), .slice none 0 0] 24 (0, 0)) (by (with_reducible repeat (first | refine kN ?_ _ | refine kD ?_ | refine kA ?_ _)); exact BKg2.out) hb); have nB_ := As.mk (bT (by repeat (first | (with_reducible first | exact HB.out | apply bA | apply bN | apply bD | refine bS ?_ GEg1.out | refine bS ?_ GEg2.out) | exact HB.out)) hb); clear BKg1; have BKg1 := ng1_; clear ng1_; clear BKg2; have BKg2 := ng2_; clear ng2_; clear HB; have HB := nB_; clear nB_; have HST2 := As.mk (St.later HST.out hb); clear HST; have HST := HST2; clear HST2; clear hb; have c54_g1_0 : w54.cell? ⟨g1, 0, none⟩ = some (.string a0_0) := (kC BKg1.out 0).trans rfl; have f54_g1_0 := kF BKg1.out 0; have c54_g1_1 : w54.cell? ⟨g1, 1, none⟩ = some (.string a0_1) := (kC BKg1.out 1).trans rfl; have f54_g1_1 := kF BKg1.out 1; have c54_g1_2 : w54.cell? ⟨g1, 2, none⟩ = some (.slice A0_2 l0_2.length c0_2) := (kC BKg1.out 2).trans rfl; have f54_g1_2 := kF BKg1.out 2; have c54_g2_0 : w54.cell? ⟨g2, 0, none⟩ = some (.string (⟨#[]⟩ : ByteArray)) := (kC BKg2.out 0).trans rfl; have f54_g2_0 := kF BKg2.out 0; have c54_g2_1 : w54.cell? ⟨g2, 1, none⟩ = some (.string (⟨#[]⟩ : ByteArray)) := (kC BKg2.out 1).trans rfl; have f54_g2_1 := kF BKg2.out 1; have c54_g2_2 : w54.cell? ⟨g2, 2, none⟩ = some (.slice none 0 0) := (kC BKg2.out 2).trans rfl; have f54_g2_2 := kF BKg2.out 2) | (go_at_call 29; refine (resource_Get.calls _ a0_0 a0_1 A0_2 c0_2 l0_2 _ _ _ _ (Kd.C_below HR.out (by repeat (first | (with_reducible first | exact HB.out | apply bA | apply bN | apply bD | refine bS ?_ GEg1.out | refine bS ?_ GEg2.out) | exact HB.out))) HC.out HG.out).mono ?_; rintro e w55 ⟨rfl, hb⟩; have ng1_ := As.mk (kB (g := g1) (o := .cells #[.string a0_0, .string a0_1, .slice A0_2 l0_2.length c0_2] 24 (0, 0)) (by (with_reducible repeat (first | refine kN ?_ _ | refine kD ?_ | refine kA ?_ _)); exact BKg1.out) hb); have ng2_ := As.mk (kB (g := g2) (o := .cells #[.string (⟨#[]⟩ : ByteArray), .string (⟨#[]⟩ : ByteArray), .slice none 0 0] 24 (0, 0)) (by (with_reducible repeat (first | refine kN ?_ _ | refine kD ?_ | refine kA ?_ _)); exact BKg2.out) hb); have nB_ := As.mk (bT (by repeat (first | (with_reducible first | exact HB.out | apply bA | apply bN | apply bD | refine bS ?_ GEg1.out | refine bS ?_ GEg2.out) | exact HB.out)) hb); clear BKg1; have BKg1 := ng1_; clear ng1_; clear BKg2; have BKg2 := ng2_; clear ng2_; clear HB; have HB := nB_; clear nB_; have HST2 := As.mk (St.later HST.out hb); clear HST; have HST := HST2; clear HST2; clear hb; have c55_g1_0 : w55.cell? ⟨g1, 0, none⟩ = some (.string a0_0) := (kC BKg1.out 0).trans rfl; have f55_g1_0 := kF BKg1.out 0; have c55_g1_1 : w55.cell? ⟨g1, 1, none⟩ = some (.string a0_1) := (kC BKg1.out 1).trans rfl; have f55_g1_1 := kF BKg1.out 1; have c55_g1_2 : w55.cell? ⟨g1, 2, none⟩ = some (.slice A0_2 l0_2.length c0_2) := (kC BKg1.out 2).trans rfl; have f55_g1_2 := kF BKg1.out 2; have c55_g2_0 : w55.cell? ⟨g2, 0, none⟩ = some (.string (⟨#[]⟩ : ByteArray)) := (kC BKg2.out 0).trans rfl; have f55_g2_0 := kF BKg2.out 0; have c55_g2_1 : w55.cell? ⟨g2, 1, none⟩ = some (.string (⟨#[]⟩ : ByteArray)) := (kC BKg2.out 1).trans rfl; have f55_g2_1 := kF BKg2.out 1; have c55_g2_2 : w55.cell? ⟨g2, 2, none⟩ = some (.slice none 0 0) := (kC BKg2.out 2).trans rfl; have f55_g2_2 := kF BKg2.out 2) | ((with_reducible refine gate_store (t := 24) (p := 2) rfl ?_); refine store_event (t := 24) (p := 2) (v := ?vo56) (w1 := ?wo56) ?hg ?ho ?hn ?hr ?_; (case ho => rfl); (case hg => rfl); (case hn => rfl); (case hr => first | (go_simp; done) | (go_simp; rfl)); intro w56 hw; have ng1_ := As.mk ((by rw [hw]; (repeat refine kR ?_ NEg1_g2.out _); (with_reducible repeat (first | refine kN ?_ _ | refine kD ?_ | refine kA ?_ _)); exact BKg1.out) : w56.heap[g1]? = some (.cells #[.string a0_0, .string a0_1, .slice A0_2 l0_2.length c0_2] 24 (0, 0))); have ng2_ := As.mk ((by rw [hw]; refine kP (cs := #[(.string (⟨#[]⟩ : ByteArray)), (.string (⟨#[]⟩ : ByteArray)), .slice none 0 0]) ?_ 2 _ rfl; refine kP (cs := #[(.string (⟨#[]⟩ : ByteArray)), .string (⟨#[]⟩ : ByteArray), .slice none 0 0]) ?_ 1 _ rfl; refine kP (cs := #[.string (⟨#[]⟩ : ByteArray), .string (⟨#[]⟩ : ByteArray), .slice none 0 0]) ?_ 0 _ rfl; (with_reducible repeat (first | refine kN ?_ _ | refine kD ?_ | refine kA ?_ _)); exact BKg2.out) : w56.heap[g2]? = some (.cells #[(.string (⟨#[]⟩ : ByteArray)), (.string (⟨#[]⟩ : ByteArray)), (.slice none 0 0)] 24 (0, 0))); have nB_ := As.mk ((by rw [hw]; exact (by repeat (first | (with_reducible first | exact HB.out | apply bA | apply bN | apply bD | refine bS ?_ GEg1.out | refine bS ?_ GEg2.out) | exact HB.out))) : Below w.heap.size w w56); clear BKg1; have BKg1 := ng1_; clear ng1_; clear BKg2; have BKg2 := ng2_; clear ng2_; clear HB; have HB := nB_; clear nB_; clear hw; have c56_g1_0 : w56.cell? ⟨g1, 0, none⟩ = some (.string a0_0) := (kC BKg1.out 0).trans rfl; have f56_g1_0 := kF BKg1.out 0; have c56_g1_1 : w56.cell? ⟨g1, 1, none⟩ = some (.string a0_1) := (kC BKg1.out 1).trans rfl; have f56_g1_1 := kF BKg1.out 1; have c56_g1_2 : w56.cell? ⟨g1, 2, none⟩ = some (.slice A0_2 l0_2.length c0_2) := (kC BKg1.out 2).trans rfl; have f56_g1_2 := kF BKg1.out 2; have c56_g2_0 : w56.cell? ⟨g2, 0, none⟩ = some ((.string (⟨#[]⟩ : ByteArray))) := (kC BKg2.out 0).trans rfl; have f56_g2_0 := kF BKg2.out 0; have c56_g2_1 : w56.cell? ⟨g2, 1, none⟩ = some ((.string (⟨#[]⟩ : ByteArray))) := (kC BKg2.out 1).trans rfl; have f56_g2_1 := kF BKg2.out 1; have c56_g2_2 : w56.cell? ⟨g2, 2, none⟩ = some ((.slice none 0 0)) := (kC BKg2.out 2).trans rfl; have f56_g2_2 := kF BKg2.out 2) | ((with_reducible refine gate_look rfl ?_); refine look_row_none HST.out HTY.out rfl _ _ rfl rfl _ rfl HES.out HN.out ?_))
    refine bodyPost_ret (results_ct rfl _ _ g2 24 #[.string (⟨#[]⟩ : ByteArray), .string (⟨#[]⟩ : ByteArray), .slice none 0 0] (0, 0) _ rfl BKg2.out Tryz.underlying24 rfl (by kernel_rfl)) rfl ?_
    exact ⟨rfl, HB.out⟩
end Go.Proofs.YtkgafkoopefghaaGreatDoor.PA
end
section
set_option linter.unusedVariables false
set_option linter.unusedSimpArgs false
namespace Go.Proofs.YtkgafkoopefghaaGreatDoor.PA
open Go.RowKit Go.Maps Go.WideMaps Go.Proofs.YtkgafkoopefghaaGreatDoor.Hk Go.Proofs.YtkgafkoopefghaaGreatDoorW.PrintWords
structure LI (w W0 wr : World) (g1 g2 : Nat) (a0_0 a0_1 : ByteArray) (A0_2 : Option Addr) (c0_2 : Nat) (l0_2 : List (S31)) (bi ni : Nat) (li : List (ByteArray × Value)) (bh nh : Nat) (D : DataW Value) : Prop where
  below : Below w.heap.size w wr
  size : W0.heap.size ≤ wr.heap.size
  k1 : wr.heap[g1]? = some (.cells #[.string a0_0, .string a0_1, .slice A0_2 l0_2.length c0_2] 24 (0, 0))
  k2 : wr.heap[g2]? = some (.cells #[.string (⟨#[]⟩ : ByteArray), .string (⟨#[]⟩ : ByteArray), .slice none 0 0] 24 (0, 0))
  e0 : w.heap.size ≤ W0.heap.size
  e1 : w.heap.size ≤ g1
  e2 : w.heap.size ≤ g2
  l1 : g1 < W0.heap.size
  l2 : g2 < W0.heap.size
  ni8 : ni ≤ 8
  inner : wr.ownsMap Tryz.prog 9 heldR bi ni (putL li)
  kept : ∀ a v, W0.cell? a = some v → wr.cell? a = some v
  has : wr.ownsMap Tryz.prog 9 heldR bh nh D
  ne : bi ≠ bh
  eh : w.heap.size ≤ bh
theorem LI.later {w W0 wr : World} {g1 g2 : Nat} {a0_0 a0_1 : ByteArray} {A0_2 : Option Addr} {c0_2 : Nat} {l0_2 : List (S31)} {bi ni : Nat} {li : List (ByteArray × Value)} {bh nh : Nat} {D : DataW Value} {w' : World} (h : LI w W0 wr g1 g2 a0_0 a0_1 A0_2 c0_2 l0_2 bi ni li bh nh D) (hb : Below wr.heap.size wr w') : LI w W0 w' g1 g2 a0_0 a0_1 A0_2 c0_2 l0_2 bi ni li bh nh D :=
  ⟨h.below.trans (hb.mono h.below.size), Nat.le_trans h.size hb.size, kB h.k1 hb, kB h.k2 hb, h.e0, h.e1, h.e2, h.l1, h.l2, h.ni8, own_below hb h.inner, fun a v hc => cellB hb (h.kept a v hc), own_below hb h.has, h.ne, h.eh⟩
theorem cell_lt {w : World} {a : Addr} {v : Value} (hc : w.cell? a = some v) : a.block < w.heap.size := by
  unfold World.cell? at hc
  by_cases hb : a.block < w.heap.size
  · exact hb
  · rw [Array.getElem?_eq_none (by omega)] at hc
    cases hc
theorem own_ne {w : World} {b n g : Nat} {D : DataW Value} {cs : Array Value} {t : TypeId} (ho : w.ownsMap Tryz.prog 9 heldR b n D) (h : w.heap[g]? = some (.cells cs t (0, 0))) : b ≠ g := by
  obtain ⟨es, clock, hb, _⟩ := ho
  intro e
  rw [e, h] at hb
  cases hb
theorem LI.set {w W0 wr : World} {g1 g2 : Nat} {a0_0 a0_1 : ByteArray} {A0_2 : Option Addr} {c0_2 : Nat} {l0_2 : List (S31)} {bi ni : Nat} {li : List (ByteArray × Value)} {bh nh : Nat} {D : DataW Value} {g i : Nat} {v : Value} {cs : Array Value} {t : TypeId} (h : LI w W0 wr g1 g2 a0_0 a0_1 A0_2 c0_2 l0_2 bi ni li bh nh D) (hg : wr.heap[g]? = some (.cells cs t (0, 0))) (hge : W0.heap.size ≤ g) : LI w W0 (wr.setCell ⟨g, i, none⟩ v) g1 g2 a0_0 a0_1 A0_2 c0_2 l0_2 bi ni li bh nh D :=
  ⟨h.below.setCell (Nat.le_trans h.e0 hge) v, by simpa [World.setCell] using h.size, kR h.k1 (by have := h.l1; show g1 ≠ g; omega) v, kR h.k2 (by have := h.l2; show g2 ≠ g; omega) v, h.e0, h.e1, h.e2, h.l1, h.l2, h.ni8, h.inner.setCell (own_ne h.inner hg) v,
    fun a x hc => by
      have h1 := h.kept a x hc
      have h2 := cell_lt hc
      rw [World.cell?_setCell_far _ _ _ _ (by show g ≠ a.block; omega)]
      exact h1,
    h.has.setCell (own_ne h.has hg) v, h.ne, h.eh⟩
theorem LI.put {w W0 wr : World} {g1 g2 : Nat} {a0_0 a0_1 : ByteArray} {A0_2 : Option Addr} {c0_2 : Nat} {l0_2 : List (S31)} {bi ni : Nat} {li : List (ByteArray × Value)} {bh nh : Nat} {D : DataW Value} {w' : World} {n' : Nat} {D' : DataW Value} (h : LI w W0 wr g1 g2 a0_0 a0_1 A0_2 c0_2 l0_2 bi ni li bh nh D) (ho : w'.ownsMap Tryz.prog 9 heldR bh n' D') (hg : wr.grownBy w' (some bh)) : LI w W0 w' g1 g2 a0_0 a0_1 A0_2 c0_2 l0_2 bi ni li bh n' D' :=
  ⟨h.below.grown hg h.below.size (fun k e => by cases e; exact h.eh), Nat.le_trans h.size hg.size, row_kept h.has hg h.k1, row_kept h.has hg h.k2, h.e0, h.e1, h.e2, h.l1, h.l2, h.ni8, h.inner.kept hg (fun e => by cases e; exact h.ne rfl), fun a v hc => CellsKept.map h.has hg _ _ (h.kept a v hc), ho, h.ne, h.eh⟩
theorem LI.turn {w W0 wr : World} {g1 g2 : Nat} {a0_0 a0_1 : ByteArray} {A0_2 : Option Addr} {c0_2 : Nat} {l0_2 : List (S31)} {bi ni : Nat} {li : List (ByteArray × Value)} {bh nh : Nat} {D : DataW Value} {w' : World} {r : Nat} (h : LI w W0 wr g1 g2 a0_0 a0_1 A0_2 c0_2 l0_2 bi ni li bh nh D) (hg : wr.grownBy w' (some r)) (hr : W0.heap.size ≤ r) (hne1 : r ≠ bi) (hne2 : r ≠ bh) : LI w W0 w' g1 g2 a0_0 a0_1 A0_2 c0_2 l0_2 bi ni li bh nh D :=
  ⟨h.below.grown hg h.below.size (fun k e => by cases e; exact Nat.le_trans h.e0 hr), Nat.le_trans h.size hg.size, (hg.block _ (blk_lt h.k1) (by have := h.l1; simp; omega)).trans h.k1, (hg.block _ (blk_lt h.k2) (by have := h.l2; simp; omega)).trans h.k2, h.e0, h.e1, h.e2, h.l1, h.l2, h.ni8, h.inner.kept hg (fun e => by cases e; exact hne1 rfl),
    fun a v hc => by
      have h1 := h.kept a v hc
      have h2 := cell_lt hc
      have h3 := cell_lt h1
      unfold World.cell? at h1 ⊢
      rw [hg.block a.block h3 (by simp; omega)]
      exact h1,
    h.has.kept hg (fun e => by cases e; exact hne2 rfl), h.ne, h.eh⟩
theorem LI.start {w wN w6 : World} {g1 g2 : Nat} {a0_0 a0_1 : ByteArray} {A0_2 : Option Addr} {c0_2 : Nat} {l0_2 : List (S31)} {bi ni : Nat} {li : List (ByteArray × Value)} {nh : Nat} {D : DataW Value} (hB : Below w.heap.size w wN) (k1 : wN.heap[g1]? = some (.cells #[.string a0_0, .string a0_1, .slice A0_2 l0_2.length c0_2] 24 (0, 0))) (k2 : wN.heap[g2]? = some (.cells #[.string (⟨#[]⟩ : ByteArray), .string (⟨#[]⟩ : ByteArray), .slice none 0 0] 24 (0, 0))) (e1 : w.heap.size ≤ g1) (e2 : w.heap.size ≤ g2)
    (hi : wN.ownsMap Tryz.prog 9 heldR bi ni (putL li)) (n8 : ni ≤ 8) (ho : w6.ownsMap Tryz.prog 9 heldR wN.heap.size nh D) (hg : (wN.alloc (.map #[] 0)).grownBy w6 (some wN.heap.size)) : LI w w6 w6 g1 g2 a0_0 a0_1 A0_2 c0_2 l0_2 bi ni li wN.heap.size nh D := by
  have h0 := World.ownsMap_made wN Tryz.prog 9 (heldR)
  have hs : wN.heap.size + 1 ≤ w6.heap.size := by simpa using hg.size
  have hlt := hi.lt
  exact ⟨(hB.alloc hB.size _).grown hg (by simpa using Nat.le_succ_of_le hB.size) (fun k e => by cases e; exact hB.size), Nat.le_refl _, row_kept h0 hg (kA k1 _), row_kept h0 hg (kA k2 _), Nat.le_trans hB.size (by omega), e1, e2, by have := blk_lt k1; omega, by have := blk_lt k2; omega, n8,
    (hi.alloc _).kept hg (fun e => by cases e; omega), fun a v hc => hc, ho, by omega, hB.size⟩
theorem start_kept {wN w6 : World} {rs : List (ByteArray × RuleD)} {li : List (ByteArray × Value)} (hg : (wN.alloc (.map #[] 0)).grownBy w6 (some wN.heap.size)) (h : KeyAll (RuleOk wN) rs li) : KeyAll (RuleOk w6) rs li :=
  h.mono fun _ _ => RuleOk.kept (fun a v hc => CellsKept.map (World.ownsMap_made wN Tryz.prog 9 heldR) hg a v (cellB (bA _ _) hc)) _ _
theorem LI.row {w W0 wr : World} {g1 g2 : Nat} {a0_0 a0_1 : ByteArray} {A0_2 : Option Addr} {c0_2 : Nat} {l0_2 : List (S31)} {bi ni : Nat} {li : List (ByteArray × Value)} {bh nh : Nat} {D : DataW Value} {w' : World} {e base : Nat} {ok : Nat → Prop} {v : Value} {xs : List S31} (h : LI w W0 wr g1 g2 a0_0 a0_1 A0_2 c0_2 l0_2 bi ni li bh nh D) (hv : Kd.R k31 e wr base ok v xs) (hbase : W0.heap.size ≤ base) (hg : wr.grownBy w' v.ownBlock) : LI w W0 w' g1 g2 a0_0 a0_1 A0_2 c0_2 l0_2 bi ni li bh nh D := by
  cases hr : v.ownBlock with
  | none =>
    rw [hr] at hg
    exact h.later ⟨hg.os, hg.tape, hg.output, hg.size, fun k hk => hg.block k hk (by simp)⟩
  | some r =>
    rw [hr] at hg
    obtain ⟨_, h1, h2, q, _, cells, h3⟩ := (Kd.R_bound hv).1 r hr
    exact h.turn hg (by omega) (own_ne h.inner h3).symm (own_ne h.has h3).symm
end Go.Proofs.YtkgafkoopefghaaGreatDoor.PA
end
section
set_option linter.unusedVariables false
set_option linter.unusedSimpArgs false
namespace Go.Proofs.YtkgafkoopefghaaGreatDoor.PA
open Go.RowKit Go.Maps Go.WideMaps Go.Proofs.YtkgafkoopefghaaGreatDoor.Hk Go.Proofs.YtkgafkoopefghaaGreatDoorW.PrintWords
theorem below_of_grown {w w' : World} (h : w.grownBy w' none) : Below w.heap.size w w' := ⟨h.os, h.tape, h.output, h.size, fun k hk => h.block k hk (by simp)⟩
theorem keyOf_inv {key : Value} {kl : Lit} (h : keyOf Tryz.prog 9 key = some kl) : ∃ x : ByteArray, key = .string x := by
  have hk := Tryz.underlying9
  cases key <;> simp [keyOf, hk, mapKey] at h
  exact ⟨_, rfl⟩
theorem keyOf_str2 {x : ByteArray} {kl : Lit} (h : keyOf Tryz.prog 9 (.string x) = some kl) : kl = kS x ∧ x.size ≤ maxLen := by
  have hk := Tryz.underlying9
  by_cases hs : x.size ≤ maxLen
  · rw [keyOf_string_mk hk hs] at h
    cases h
    exact ⟨rfl, hs⟩
  · exfalso
    simp [keyOf, hk, mapKey, Lit.wf] at h
    have := Lib.size_eq x
    omega
theorem same_kS (s x : ByteArray) : (kS s).sameKey (kS x) = decide (s = x) := by
  by_cases e : s = x
  · subst e
    rw [decide_eq_true rfl]
    exact WideAt.sameKey_self (by simp [WideAt.IsKeyLit, kS])
  · rw [decide_eq_false e]
    exact Maps.sameKey_ne (fun h => e (kS_inj h))
section
variable {w : World} {ops : Array Oper} {rest : List Oper} {o : Oper} {a : Act} {Q : Exit → Act → World → Prop} {W0 : World} {rs : List (ByteArray × RuleD)} {li : List (ByteArray × Value)} {b r n cnt : Nat} {left : Lit → Bool}
theorem next_rules (h : w.ranges Tryz.prog 9 heldR b r n (putL li) left cnt) (hka : KeyAll (RuleOk W0) rs li) (ho : once rs = true) (hg : o.guard = none) (it : Operand) (hop : o.op = Op.next it false) (hit : a.eval it = .pointer (some ⟨r, 0, none⟩))
    (hDone : cnt = 0 → (∀ kl, left kl = false) → wpList Tryz.prog ops Q rest (a.put o.dst (.tuple #[.bool false])) w)
    (hMore : ∀ (x : ByteArray) (q : RuleD) (g : Nat) (lb : Array Value) (w' : World) (cnt' : Nat), left (kS x) = true → findK rs x = some q → x.size ≤ maxLen → w'.ranges Tryz.prog 9 heldR b r n (putL li) (fun z => left z && !z.sameKey (kS x)) cnt' → cnt' < cnt → w.grownBy w' (some r) →
      (Instr.entry (.pointer (some ⟨r, 0, none⟩))).run Tryz.prog w' = .ok (.tuple #[.string x, .agg #[.string q.dflt, .bool q.must, .func (.func g) #[] lb]]) w' → wpList Tryz.prog ops Q rest (a.put o.dst (.tuple #[.bool true, .string x, .agg #[.string q.dflt, .bool q.must, .func (.func g) #[] lb]])) w') :
    wpList Tryz.prog ops Q (o :: rest) a w := by
  have hol : once li = true := by rw [← once_all hka]; exact ho
  refine wpList_next_ranges w hg it hop 9 (string_keyed Tryz.underlying9) heldR Value.string (id : Value → Value) (fun key kl hk => keyOf_inv hk) (fun v y hv => ⟨v, rfl⟩) b r n (putL li) left cnt hit h hDone ?_
  intro x c kl y w' cnt' hkey hlk hv hat hrg hlt hgr hsz hen
  obtain ⟨rfl, hxs⟩ := keyOf_str2 hkey
  cases hv
  have h1 := hat .nil
  have h2 := hat (.held .nilFunc)
  rw [putL_at hol] at h1
  rcases findK_all x hka with ⟨_, h4⟩ | ⟨q, v, h3, h4, g, lb, cells, e, _⟩
  · rw [h4] at h1
    cases h1
  · rw [h4] at h1
    simp only [DataW.held.injEq, id] at h1
    subst h1
    subst e
    exact hMore x q g lb w' cnt' hlk h3 hxs hrg hlt hgr hen
end
def tAt (ens : ByteArray) (P : List S31) (rs : List (ByteArray × RuleD)) (left : Lit → Bool) (s : ByteArray) : Option ByteArray := match toldAt ens P s with | some v => some v | none => if left (kS s) = true then none else (findK rs s).map (·.dflt)
structure Inv2 (ens : ByteArray) (P : List S31) (rs : List (ByteArray × RuleD)) (left : Lit → Bool) (D : DataW Value) : Prop where
  at_ : ∀ s z, D.atKey (kS s) z = (match tAt ens P rs left s with | some v => toldV v | none => z)
  has_ : ∀ s, Maps.has D (kS s) = (tAt ens P rs left s).isSome
  map_ : IsMap D
  must_ : ∀ s q, findK rs s = some q → left (kS s) = false → toldAt ens P s = none → q.must = false
theorem tAt_start {ens : ByteArray} {P : List S31} {rs : List (ByteArray × RuleD)} {W0 : World} {li : List (ByteArray × Value)} (hka : KeyAll (RuleOk W0) rs li) (ho : once rs = true) (s : ByteArray) : tAt ens P rs (Maps.has (putL li)) s = toldAt ens P s := by
  have hol : once li = true := by rw [← once_all hka]; exact ho
  unfold tAt
  cases toldAt ens P s with
  | some v => rfl
  | none =>
    show (if _ then _ else _) = _
    rcases findK_all s hka with ⟨h3, h4⟩ | ⟨q, v, h3, h4, _⟩
    · rw [putL_has hol, h4, h3]; rfl
    · rw [putL_has hol, h4]; rfl
theorem Inv2.start {ens : ByteArray} {P : List S31} {rs : List (ByteArray × RuleD)} {W0 : World} {li : List (ByteArray × Value)} (hka : KeyAll (RuleOk W0) rs li) (ho : once rs = true) : Inv2 ens P rs (Maps.has (putL li)) (toldD ens P) := by
  have hol : once li = true := by rw [← once_all hka]; exact ho
  refine ⟨fun s z => by rw [tAt_start hka ho]; exact (toldD_at ens P s z).1, fun s => by rw [tAt_start hka ho]; exact (toldD_at ens P s .nil).2, toldD_isMap ens P, fun s q hq hl _ => ?_⟩
  rcases findK_all s hka with ⟨h3, h4⟩ | ⟨q', v, h3, h4, _⟩
  · rw [h3] at hq; cases hq
  · rw [putL_has hol, h4] at hl; cases hl
def strike (left : Lit → Bool) (x : ByteArray) : Lit → Bool := fun z => left z && !z.sameKey (kS x)
theorem strike_self (left : Lit → Bool) (x : ByteArray) : strike left x (kS x) = false := by unfold strike; rw [same_kS, decide_eq_true rfl]; simp
theorem strike_other (left : Lit → Bool) {x s : ByteArray} (h : s ≠ x) : strike left x (kS s) = left (kS s) := by unfold strike; rw [same_kS, decide_eq_false h]; simp
theorem tAt_other {ens : ByteArray} {P : List S31} {rs : List (ByteArray × RuleD)} {left : Lit → Bool} {x s : ByteArray} (h : s ≠ x) : tAt ens P rs (strike left x) s = tAt ens P rs left s := by unfold tAt; rw [strike_other left h]
theorem Inv2.skip {ens : ByteArray} {P : List S31} {rs : List (ByteArray × RuleD)} {left : Lit → Bool} {D : DataW Value} {x : ByteArray} (h : Inv2 ens P rs left D) (hl : left (kS x) = true) (hh : (tAt ens P rs left x).isSome = true) : Inv2 ens P rs (strike left x) D := by
  have ht : (toldAt ens P x).isSome = true := by
    unfold tAt at hh
    cases hc : toldAt ens P x with
    | some v => rfl
    | none => rw [hc] at hh; simp [hl] at hh
  have hx : ∀ s, tAt ens P rs (strike left x) s = tAt ens P rs left s := fun s => by
    by_cases e : s = x
    · subst e
      unfold tAt
      cases hc : toldAt ens P s with
      | some v => rfl
      | none => rw [hc] at ht; cases ht
    · exact tAt_other e
  refine ⟨fun s z => by rw [hx]; exact h.at_ s z, fun s => by rw [hx]; exact h.has_ s, h.map_, fun s q hq hls hts => ?_⟩
  by_cases e : s = x
  · subst e; rw [hts] at ht; cases ht
  · rw [strike_other left e] at hls; exact h.must_ s q hq hls hts
theorem Inv2.add {ens : ByteArray} {P : List S31} {rs : List (ByteArray × RuleD)} {left : Lit → Bool} {D : DataW Value} {x : ByteArray} {q : RuleD} (h : Inv2 ens P rs left D) (hl : left (kS x) = true) (hh : (tAt ens P rs left x).isSome = false) (hq : findK rs x = some q) (hm : q.must = false) : Inv2 ens P rs (strike left x) (D.put (kS x) (toldV q.dflt)) := by
  have ht : toldAt ens P x = none := by
    unfold tAt at hh
    cases hc : toldAt ens P x with
    | some v => rw [hc] at hh; cases hh
    | none => rfl
  have hx : tAt ens P rs (strike left x) x = some q.dflt := by unfold tAt; rw [ht, strike_self, hq]; rfl
  refine ⟨fun s z => ?_, fun s => ?_, h.map_.put _ _, fun s q' hq' hls hts => ?_⟩
  · rw [at_put D h.map_]
    by_cases e : s = x
    · subst e; rw [if_pos rfl, hx]
    · rw [if_neg e, tAt_other e]; exact h.at_ s z
  · rw [has_put D h.map_]
    by_cases e : s = x
    · subst e; rw [if_pos rfl, hx]; rfl
    · rw [if_neg e, tAt_other e]; exact h.has_ s
  · by_cases e : s = x
    · subst e; rw [hq] at hq'; cases hq'; exact hm
    · rw [strike_other left e] at hls; exact h.must_ s q' hq' hls hts
theorem tAt_none {ens : ByteArray} {P : List S31} {rs : List (ByteArray × RuleD)} {left : Lit → Bool} {x : ByteArray} (hh : (tAt ens P rs left x).isSome = false) : toldAt ens P x = none := by
  unfold tAt at hh
  cases hc : toldAt ens P x with
  | some v => rw [hc] at hh; cases hh
  | none => rfl
theorem lacks_true {ens : ByteArray} {P : List S31} {rs : List (ByteArray × RuleD)} {x : ByteArray} {q : RuleD} (hq : findK rs x = some q) (hm : q.must = true) (ht : toldAt ens P x = none) : lacks ens P rs = true :=
  List.any_eq_true.2 ⟨(x, q), findK_mem hq, by simp [hm, ht]⟩
theorem mem_findK {α : Type} {s : ByteArray} {x : α} : ∀ {l : List (ByteArray × α)}, once l = true → (s, x) ∈ l → findK l s = some x
  | [], _, h => by cases h
  | p :: l, ho, h => by
    unfold once at ho
    simp only [Bool.and_eq_true] at ho
    unfold findK
    rcases List.mem_cons.1 h with rfl | h
    · rw [if_pos rfl]
    · by_cases e : s = p.1
      · have := mem_findK ho.2 h
        rw [e] at this
        rw [this] at ho
        cases ho.1
      · rw [if_neg e]; exact mem_findK ho.2 h
theorem lacks_false {ens : ByteArray} {P : List S31} {rs : List (ByteArray × RuleD)} {left : Lit → Bool} {D : DataW Value} (h : Inv2 ens P rs left D) (hl : ∀ k, left k = false) (ho : once rs = true) : lacks ens P rs = false := by
  rw [Bool.eq_false_iff]
  intro e
  obtain ⟨⟨n, q⟩, hm, hb⟩ := List.any_eq_true.1 e
  simp only [Bool.and_eq_true, Option.isNone_iff_eq_none] at hb
  have := h.must_ n q (mem_findK ho hm) (hl _) hb.2
  rw [this] at hb
  cases hb.1
theorem tAt_end {ens : ByteArray} {P : List S31} {rs : List (ByteArray × RuleD)} {left : Lit → Bool} (hl : ∀ k, left k = false) (s : ByteArray) : tAt ens P rs left s = fullAt ens P rs s := by
  unfold tAt fullAt
  rw [hl]
  rfl
theorem rng_blocks {w w' : World} {b r n cnt : Nat} {left : Lit → Bool} {D : DataW Value} (h : w.ranges Tryz.prog 9 heldR b r n D left cnt) (hb : w'.heap[b]? = w.heap[b]?) (hr : w'.heap[r]? = w.heap[r]?) : w'.ranges Tryz.prog 9 heldR b r n D left cnt := by
  obtain ⟨es, clock, since, seen, c0, h1, F, hs, hD, h2, rest⟩ := h
  exact ⟨es, clock, since, seen, c0, hb.trans h1, F, hs, hD, hr.trans h2, rest⟩
theorem rng_below {w w' : World} {b r n cnt : Nat} {left : Lit → Bool} {D : DataW Value} (h : w.ranges Tryz.prog 9 heldR b r n D left cnt) (hb : Below w.heap.size w w') : w'.ranges Tryz.prog 9 heldR b r n D left cnt := rng_blocks h (hb.block _ h.owns.lt) (hb.block _ h.lt)
theorem rng_ne {w : World} {b r n cnt g : Nat} {left : Lit → Bool} {D : DataW Value} (h : w.ranges Tryz.prog 9 heldR b r n D left cnt) {cs : Array Value} {t : TypeId} (hg : w.heap[g]? = some (.cells cs t (0, 0))) : b ≠ g ∧ r ≠ g := by
  obtain ⟨es, clock, since, seen, c0, h1, F, hs, hD, h2, rest⟩ := h
  exact ⟨(fun e => by rw [e, hg] at h1; cases h1), (fun e => by rw [e, hg] at h2; cases h2)⟩
theorem rng_set {w : World} {b r n cnt g i : Nat} {left : Lit → Bool} {D : DataW Value} {v : Value} (h : w.ranges Tryz.prog 9 heldR b r n D left cnt) {cs : Array Value} {t : TypeId} (hg : w.heap[g]? = some (.cells cs t (0, 0))) : (w.setCell ⟨g, i, none⟩ v).ranges Tryz.prog 9 heldR b r n D left cnt :=
  rng_blocks h (Below.heap_setCell _ _ _ _ (rng_ne h hg).1) (Below.heap_setCell _ _ _ _ (rng_ne h hg).2)
theorem rng_own {w : World} {b r n cnt bh nh : Nat} {left : Lit → Bool} {D D' : DataW Value} (h : w.ranges Tryz.prog 9 heldR b r n D left cnt) (ho : w.ownsMap Tryz.prog 9 heldR bh nh D') : r ≠ bh := by
  obtain ⟨es, clock, since, seen, c0, h1, F, hs, hD, h2, rest⟩ := h
  obtain ⟨es', clock', hb, _⟩ := ho
  intro e
  rw [e, hb] at h2
  cases h2
theorem rng_put {w w' : World} {b r n cnt bh nh : Nat} {left : Lit → Bool} {D D' : DataW Value} (h : w.ranges Tryz.prog 9 heldR b r n D left cnt) (ho : w.ownsMap Tryz.prog 9 heldR bh nh D') (hg : w.grownBy w' (some bh)) (hne : b ≠ bh) : w'.ranges Tryz.prog 9 heldR b r n D left cnt :=
  h.kept hg (fun e => by cases e; exact hne rfl) (fun e => by cases e; exact rng_own h ho rfl)
theorem own_size {w : World} {b n : Nat} {D : DataW Value} (h : w.ownsMap Tryz.prog 9 heldR b n D) : Maps.size D ≤ n := by
  obtain ⟨es, clock, hb, F, hs, rfl⟩ := h
  rw [Maps.size_eq, (Go.WideShapes.sorted_perm _).length_eq]
  simpa using hs
theorem zero_told (w : World) : (zeroValue 64).run Tryz.prog w = .ok (.agg #[.string ⟨#[]⟩]) w := by kernel_rfl
section
variable {w : World} {ops : Array Oper} {rest : List Oper} {o : Oper} {a : Act} {Q : Exit → Act → World → Prop} {ens : ByteArray} {P : List S31} {rs : List (ByteArray × RuleD)} {left : Lit → Bool} {D : DataW Value} {bh nD : Nat}
theorem look_told_some (hI : Inv2 ens P rs left D) (hown : w.ownsMap Tryz.prog 9 heldR bh nD D) (hg : o.guard = none) (m x : Operand) (hop : o.op = Op.lookup 65 m x true) (hm : a.eval m = .map (some bh)) (s : ByteArray) (hx : a.eval x = .string s) (hs : s.size ≤ maxLen) {t : ByteArray} (ht : tAt ens P rs left s = some t)
    (hK : wpList Tryz.prog ops Q rest (a.put o.dst (.tuple #[.agg #[.string t], .bool true])) w) : wpList Tryz.prog ops Q (o :: rest) a w := by
  refine wpList_look_held w hg m x _ hop _ _ Tryz.underlying9 Tryz.underlying65 _ (zero_told w) bh nD D hm hown s hx hs fun v hv => ?_
  rw [hI.at_, ht] at hv
  cases hv
  rw [hI.has_, ht]
  exact hK
theorem look_told_none (hI : Inv2 ens P rs left D) (hown : w.ownsMap Tryz.prog 9 heldR bh nD D) (hg : o.guard = none) (m x : Operand) (hop : o.op = Op.lookup 65 m x true) (hm : a.eval m = .map (some bh)) (s : ByteArray) (hx : a.eval x = .string s) (hs : s.size ≤ maxLen) (ht : tAt ens P rs left s = none)
    (hK : wpList Tryz.prog ops Q rest (a.put o.dst (.tuple #[.agg #[.string ⟨#[]⟩], .bool false])) w) : wpList Tryz.prog ops Q (o :: rest) a w := by
  refine wpList_look_held w hg m x _ hop _ _ Tryz.underlying9 Tryz.underlying65 _ (zero_told w) bh nD D hm hown s hx hs fun v hv => ?_
  rw [hI.at_, ht] at hv
  cases hv
  rw [hI.has_, ht]
  exact hK
end
end Go.Proofs.YtkgafkoopefghaaGreatDoor.PA
end
section
set_option linter.unusedVariables false
set_option linter.unusedSimpArgs false
namespace Go.Proofs.YtkgafkoopefghaaGreatDoor.PA
open Go.RowKit Go.Maps Go.WideMaps Go.Proofs.YtkgafkoopefghaaGreatDoor.Hk Go.Proofs.YtkgafkoopefghaaGreatDoorW.PrintWords
theorem told_some (s : ByteArray) : ∀ (P : List S31) (o : Option ByteArray), (P.foldl (fun o p => if s = p.f0 then some p.f1 else o) o).isSome = true ↔ o.isSome = true ∨ ∃ p, p ∈ P ∧ s = p.f0
  | [], o => by simp
  | p :: P, o => by
    rw [List.foldl_cons, told_some s P]
    by_cases e : s = p.f0
    · rw [if_pos e]
      simp only [Option.isSome_some, true_or, true_iff]
      exact .inr ⟨p, .head _, e⟩
    · rw [if_neg e]
      constructor
      · rintro (h | ⟨q, hq, h⟩)
        · exact .inl h
        · exact .inr ⟨q, .tail _ hq, h⟩
      · rintro (h | ⟨q, hq, h⟩)
        · exact .inl h
        · rcases List.mem_cons.1 hq with rfl | hq
          · exact (e h).elim
          · exact .inr ⟨q, hq, h⟩
theorem toldAt_some (ens s : ByteArray) (P : List S31) : (toldAt ens P s).isSome = true ↔ s = ensB ∨ ∃ p, p ∈ P ∧ s = p.f0 := by
  unfold toldAt
  rw [told_some]
  by_cases e : s = ensB
  · rw [if_pos e]; simp [e]
  · rw [if_neg e]; simp [e]
theorem known_mem {rs : List (ByteArray × RuleD)} {P : List S31} (h : okP rs P = true) {p : S31} (hp : p ∈ P) : p.f0 = ensB ∨ (findK rs p.f0).isSome = true := by
  obtain ⟨i, hi, rfl⟩ := List.mem_iff_getElem.1 hp
  have h1 := List.all_eq_true.1 h i (List.mem_range.2 hi)
  have e : rd_T31 P (i : Int) = P[i] := by unfold rd_T31; rw [Int.toNat_natCast, List.getD_eq_getElem?_getD, List.getElem?_eq_getElem hi]; rfl
  unfold stepOk knownS at h1
  rw [e] at h1
  simp only [Bool.and_eq_true, Bool.or_eq_true, beq_iff_eq] at h1
  rcases h1.1 with h2 | h2
  · refine .inl ?_
    rw [toList_eq] at h2
    exact ByteArray.ext (Array.ext' h2)
  · refine .inr ?_
    cases hf : findK rs P[i].f0 with
    | none => rw [hf] at h2; cases h2
    | some q => rfl
theorem findK_some_mem {α : Type} {s : ByteArray} : ∀ {l : List (ByteArray × α)}, (findK l s).isSome = true ↔ s ∈ l.map (·.1)
  | [] => by simp [findK]
  | p :: l => by
    unfold findK
    by_cases e : s = p.1
    · rw [if_pos e]; simp [e]
    · rw [if_neg e, findK_some_mem]; simp [e]
theorem once_nodup {α : Type} : ∀ {l : List (ByteArray × α)}, once l = true → (l.map (·.1)).Nodup
  | [], _ => by simp
  | p :: l, h => by
    unfold once at h
    simp only [Bool.and_eq_true, Option.isNone_iff_eq_none] at h
    rw [List.map_cons, List.nodup_cons]
    refine ⟨fun hm => ?_, once_nodup h.2⟩
    have := findK_some_mem.2 hm
    rw [h.1] at this
    cases this
def nm0 (rs : List (ByteArray × RuleD)) : List ByteArray := ensB :: rs.map (·.1)
theorem bytes_inj {s t : ByteArray} (h : s.data.toList = t.data.toList) : s = t := ByteArray.ext (Array.ext' h)
theorem names_perm {w : World} {b n : Nat} {D : DataW Value} {ens : ByteArray} {P : List S31} {rs : List (ByteArray × RuleD)} (hown : w.ownsMap Tryz.prog 9 heldR b n D) (hh : ∀ s, Maps.has D (kS s) = (fullAt ens P rs s).isSome) (ho : once rs = true) (he : findK rs ensB = none) (hok : okP rs P = true) :
    ((nm0 rs).map (·.data.toList)).Perm (strKeys D) := by
  obtain ⟨es, hD, hpw, _⟩ := hown.entries (string_keyed Tryz.underlying9)
  obtain ⟨es', hD', hko⟩ := hown.keysOf
  obtain rfl : es = es' := by rw [hD] at hD'; simpa using hD'
  subst hD
  refine perm_strKeys hpw (fun p hp => by obtain ⟨v, hv⟩ := hko p hp; obtain ⟨x, _, hx, _⟩ := Maps.keyOf_str Tryz.underlying9 hv; exact ⟨x, hx⟩) ?_ (fun x => ?_)
  · refine List.pairwise_map.2 (List.Pairwise.imp (R := (· ≠ ·)) (fun {s t} hne e => hne (bytes_inj e)) ?_)
    show (nm0 rs).Nodup
    unfold nm0
    rw [List.nodup_cons]
    refine ⟨fun hm => ?_, once_nodup ho⟩
    have := findK_some_mem.2 hm
    rw [he] at this
    cases this
  · have h1 := hh ⟨x.toArray⟩
    have e : kS ⟨x.toArray⟩ = .string x := by simp [kS]
    rw [e] at h1
    rw [h1]
    have hmem : x ∈ (nm0 rs).map (·.data.toList) ↔ (⟨x.toArray⟩ : ByteArray) ∈ nm0 rs := by
      constructor
      · intro h
        obtain ⟨s, hs, rfl⟩ := List.mem_map.1 h
        have : (⟨s.data.toList.toArray⟩ : ByteArray) = s := by cases s; simp
        rw [this]; exact hs
      · intro h
        exact List.mem_map.2 ⟨_, h, by simp⟩
    rw [hmem]
    generalize (⟨x.toArray⟩ : ByteArray) = s
    unfold nm0 fullAt
    rw [List.mem_cons, ← findK_some_mem]
    have ht := toldAt_some ens s P
    cases hc : toldAt ens P s with
    | some v =>
      rw [hc] at ht
      simp only [Option.isSome_some, true_iff] at ht
      simp only [Option.isSome_some, iff_true]
      rcases ht with h | ⟨p, hp, rfl⟩
      · exact .inl h
      · exact known_mem hok hp
    | none =>
      rw [hc] at ht
      have hne : s ≠ ensB := fun h => by have := ht.2 (.inl h); cases this
      show s = ensB ∨ _ ↔ ((findK rs s).map _).isSome = true
      rw [Option.isSome_map]
      constructor
      · rintro (h | h)
        · exact (hne h).elim
        · exact h
      · exact .inr
theorem names_sorted {w : World} {b n : Nat} {D : DataW Value} {ens : ByteArray} {P : List S31} {rs : List (ByteArray × RuleD)} (hown : w.ownsMap Tryz.prog 9 heldR b n D) (hh : ∀ s, Maps.has D (kS s) = (fullAt ens P rs s).isSome) (ho : once rs = true) (he : findK rs ensB = none) (hok : okP rs P = true) {ss : List (List UInt8)} (hp : ss.Perm (strKeys D)) :
    ss.mergeSort (fun x y => decide (x ≤ y)) = namesS rs := by
  have h := mergeSort_of_perm (hp.trans (names_perm hown hh ho he hok).symm)
  unfold namesS
  refine h.trans ?_
  unfold nm0
  simp only [List.map_cons, List.map_map]
  rfl
end Go.Proofs.YtkgafkoopefghaaGreatDoor.PA
end
section
set_option linter.unusedVariables false
set_option linter.unusedSimpArgs false
namespace Go.Proofs.YtkgafkoopefghaaGreatDoor.PA
open Go.RowKit Go.Maps Go.WideMaps Go.Proofs.YtkgafkoopefghaaGreatDoor.Hk Go.Proofs.YtkgafkoopefghaaGreatDoorW.PrintWords
theorem keys_calls (mb : Option Nat) (W : World) : Calls Tryz.prog 31 #[.map mb] W fun e w' => e = .returned (.func (.func 65) #[] #[.pointer (some ⟨W.heap.size, 0, none⟩)]) ∧ w' = W.alloc (.cells #[.map mb] 65) := callsIn_wide.1 (Tryz.maps_Keys_31 mb W)
def namesB (rs : List (ByteArray × RuleD)) : List ByteArray := (namesS rs).map fun n => ⟨n.toArray⟩
theorem sorted_calls {w : World} {b n : Nat} {D : DataW Value} {ens : ByteArray} {P : List S31} {rs : List (ByteArray × RuleD)} (hown : w.ownsMap Tryz.prog 9 heldR b n D) (hn : n ≤ 8796093022208) (hh : ∀ s, Maps.has D (kS s) = (fullAt ens P rs s).isSome) (ho : once rs = true) (he : findK rs ensB = none) (hok : okP rs P = true) :
    Calls Tryz.prog 30 #[.func (.func 65) #[] #[.pointer (some ⟨w.heap.size, 0, none⟩)]] (w.alloc (.cells #[.map (some b)] 65)) fun e w' => ∃ A c, e = .returned (.slice A (namesB rs).length c) ∧ Kd.R Kd.string 9 w' (w.alloc (.cells #[.map (some b)] 65)).heap.size (fun _ => True) (.slice A (namesB rs).length c) (namesB rs) ∧ Below (w.alloc (.cells #[.map (some b)] 65)).heap.size (w.alloc (.cells #[.map (some b)] 65)) w' := by
  have hsz := own_size hown
  refine (callsIn_wide.1 (Tryz.slices_Sorted_keys_30_31 b n D heldR w hown (by unfold maxLen; omega) (by omega))).mono ?_
  rintro e w' ⟨v, ss, rfl, hp, hrow, _, hb⟩
  have hs := names_sorted hown hh ho he hok hp
  rw [hs] at hrow
  have hlen : ss.length = (namesB rs).length := by
    have := congrArg List.length hs
    rw [List.length_mergeSort] at this
    unfold namesB
    rw [List.length_map, this]
  rw [hlen] at hrow
  have hR : Kd.R Kd.string 9 w' (w.alloc (.cells #[.map (some b)] 65)).heap.size (fun _ => True) v (namesB rs) := by
    refine Kd.R_of_own (enc := Value.string) (h1 := fun _ => rfl) ?_ (fun _ _ => trivial)
    unfold encs namesB
    rw [List.map_map]
    have e2 : (namesS rs).map encStr = (namesS rs).map (Value.string ∘ fun n => (⟨n.toArray⟩ : ByteArray)) := rfl
    rw [← e2]
    unfold namesB at hrow
    exact hrow
  obtain ⟨A, c, he2, _, hC⟩ := Kd.R_reads hR
  exact ⟨A, c, by rw [he2], he2 ▸ hR, hb⟩
section
variable {w : World} {ops : Array Oper} {rest : List Oper} {o : Oper} {a : Act} {Q : Exit → Act → World → Prop} {D : DataW Value} {bh nD : Nat}
theorem look_one (hown : w.ownsMap Tryz.prog 9 heldR bh nD D) (hg : o.guard = none) (m x : Operand) (hop : o.op = Op.lookup 65 m x false) (hm : a.eval m = .map (some bh)) (s : ByteArray) (hx : a.eval x = .string s) (hs : s.size ≤ maxLen) {t : ByteArray} (ht : ∀ z, D.atKey (kS s) z = toldV t)
    (hK : wpList Tryz.prog ops Q rest (a.put o.dst (.agg #[.string t])) w) : wpList Tryz.prog ops Q (o :: rest) a w := by
  refine wpList_plain hg fun K' hK' => ?_
  obtain ⟨v, ps, hrun, hv⟩ := hown.lookup (string_keyed Tryz.underlying9) Tryz.underlying65 (zero_told w) (rfl : heldR (.agg #[.string ⟨#[]⟩]) = some (.held (.agg #[.string ⟨#[]⟩]), [])) (keyOf_string_mk Tryz.underlying9 hs)
  rw [show Lit.string s.data.toList = kS s from rfl, ht] at hv
  have := heldR_inv hv
  subst this
  unfold Oper.wp
  simp [execOp, hop, hm, hx, hrun, Result.andThen]
  exact hK' _ _ hK
end
theorem names_far {w' : World} {base g : Nat} {v : Value} {xs : List ByteArray} (hR : Kd.R Kd.string 9 w' base (fun _ => True) v xs) (hg : g < base) : Kd.R Kd.string 9 w' base (fun k => k ≠ g) v xs := Kd.R_mono (Kd.R_bound hR) (fun k hk e => by have := hk.2.1; omega)
theorem name_mem {rs : List (ByteArray × RuleD)} {s : ByteArray} (h : s ∈ namesB rs) : s = ensB ∨ s ∈ rs.map (·.1) := by
  obtain ⟨n, hn, rfl⟩ := List.mem_map.1 h
  unfold namesS at hn
  rw [List.mem_mergeSort, List.mem_cons] at hn
  rcases hn with rfl | hn
  · exact .inl rfl
  · obtain ⟨p, hp, rfl⟩ := List.mem_map.1 hn
    exact .inr (List.mem_map.2 ⟨p, hp, rfl⟩)
theorem name_full {ens : ByteArray} {P : List S31} {rs : List (ByteArray × RuleD)} {s : ByteArray} (h : s ∈ namesB rs) : fullAt ens P rs s = some ((fullAt ens P rs s).getD ⟨#[]⟩) := by
  have hs : (fullAt ens P rs s).isSome = true := by
    unfold fullAt
    cases hc : toldAt ens P s with
    | some v => rfl
    | none =>
      rcases name_mem h with rfl | hm
      · have := (toldAt_some ens ensB P).2 (.inl rfl)
        rw [hc] at this; cases this
      · show ((findK rs s).map _).isSome = true
        rw [Option.isSome_map]
        exact findK_some_mem.2 hm
  cases hc : fullAt ens P rs s with
  | some v => rfl
  | none => rw [hc] at hs; cases hs
theorem name_size {rs : List (ByteArray × RuleD)} (h8 : ∀ y, y ∈ rs → y.1.size ≤ 16) {s : ByteArray} (h : s ∈ namesB rs) : s.size ≤ maxLen := by
  rcases name_mem h with rfl | hm
  · decide
  · obtain ⟨p, hp, rfl⟩ := List.mem_map.1 hm
    have := h8 p hp
    unfold maxLen
    omega
theorem name_at {rs : List (ByteArray × RuleD)} {i : Nat} (hi : i < (namesB rs).length) : rdOf ByteArray.empty (namesB rs) (i : Int) ∈ namesB rs := rd_mem (by omega) (by omega)
theorem outS_length (ens : ByteArray) (P : List S31) (rs : List (ByteArray × RuleD)) : (outS ens P rs).length = (namesB rs).length := by simp [outS, namesB]
theorem outS_take {ens : ByteArray} {P : List S31} {rs : List (ByteArray × RuleD)} {i : Nat} (hi : i < (namesB rs).length) : (outS ens P rs).take (i + 1) = (outS ens P rs).take i ++ [⟨rdOf ByteArray.empty (namesB rs) (i : Int), (fullAt ens P rs (rdOf ByteArray.empty (namesB rs) (i : Int))).getD ⟨#[]⟩⟩] := by
  have hi2 : i < (outS ens P rs).length := by rw [outS_length]; exact hi
  have hi3 : i < (namesS rs).length := by unfold namesB at hi; simpa using hi
  have e1 : rdOf ByteArray.empty (namesB rs) (i : Int) = ⟨((namesS rs)[i]).toArray⟩ := by
    unfold rdOf namesB
    rw [Int.toNat_natCast, List.getD_eq_getElem?_getD, List.getElem?_map, List.getElem?_eq_getElem hi3]
    rfl
  rw [e1, List.take_add_one, List.getElem?_eq_getElem hi2]
  simp [outS]
end Go.Proofs.YtkgafkoopefghaaGreatDoor.PA
end
