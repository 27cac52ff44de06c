/- A part of this law; its conditions stand in the last text. -/
import Derived.Test.YtkgafkoopefghaaGreatDoorCs26
import Derived.Test.YtkgafkoopefghaaGreatDoorCs27
import Derived.Test.YtkgafkoopefghaaGreatDoorCs28
import Derived.Deep.RegionHeld3
import Derived.WalkSmall
import Derived.Deep.QuietTactic
import Derived.BigQuiet
import Derived.Test.YtkgafkoopefghaaGreatDoorCs5
section
set_option linter.unusedVariables false
set_option linter.unusedSimpArgs false
namespace Go.Proofs.YtkgafkoopefghaaGreatDoor.PA
open Go.RowKit Go.Maps Go.WideMaps Go.Proofs.YtkgafkoopefghaaGreatDoor.Hk Go.Proofs.YtkgafkoopefghaaGreatDoorW.PrintWords Go.Proofs.YtkgafkoopefghaaGreatDoorW.PrintLast
theorem run_store_nilFunc (P : Program) (w : World) (a : Addr) (m : Mode) : (store a .nilFunc m).run P w = stored P w a .nilFunc m := run_store P w a _ m rfl
attribute [local go_sem] run_store_func run_store_nilFunc
theorem hinfoP : (Tryz.prog.info? 31).map (fun i => (i.zero, i.size, i.bytes)) = some (some (.agg #[(.string ⟨#[]⟩), (.string ⟨#[]⟩)]), 2, 32) := by kernel_rfl
theorem known_ens {rs : List (ByteArray × RuleD)} {nm vl : ByteArray} (h : (nm.toList == ([101, 110, 115, 117, 114, 101] : List UInt8)) = true) : knownS rs ⟨nm, vl⟩ = true := by unfold knownS; rw [h]; rfl
theorem known_rule {rs : List (ByteArray × RuleD)} {nm vl : ByteArray} {q : RuleD} (hf : findK rs nm = some q) (hm : q.may vl = true) : knownS rs ⟨nm, vl⟩ = true := by unfold knownS; rw [hf]; simp [hm]
theorem known_none {rs : List (ByteArray × RuleD)} {nm vl : ByteArray} (h : (nm.toList == ([101, 110, 115, 117, 114, 101] : List UInt8)) = false) (hf : findK rs nm = none) : knownS rs ⟨nm, vl⟩ = false := by unfold knownS; rw [h, hf]; rfl
theorem known_may {rs : List (ByteArray × RuleD)} {nm vl : ByteArray} {q : RuleD} (h : (nm.toList == ([101, 110, 115, 117, 114, 101] : List UInt8)) = false) (hf : findK rs nm = some q) (hm : q.may vl = false) : knownS rs ⟨nm, vl⟩ = false := by unfold knownS; rw [h, hf]; simp [hm]
theorem step_first {rs : List (ByteArray × RuleD)} {l : List S31} {p : S31} (hp : rd_T31 l ((0 : Nat) : Int) = p) (hk : knownS rs p = true) : stepOk rs l 0 = true := by unfold stepOk; rw [hp, hk]; rfl
theorem step_next {rs : List (ByteArray × RuleD)} {l : List S31} {i : Nat} {p : S31} (hp : rd_T31 l (i : Int) = p) (hk : knownS rs p = true) (hle : leS p.f0 (rd_T31 l ((i - 1 : Nat) : Int)).f0 = false) : stepOk rs l i = true := by unfold stepOk; rw [hp, hk, hle]; simp
theorem step_unknown {rs : List (ByteArray × RuleD)} {l : List S31} {i : Nat} {p : S31} (hp : rd_T31 l (i : Int) = p) (hk : knownS rs p = false) : stepOk rs l i = false := by unfold stepOk; rw [hp, hk]; rfl
theorem step_order {rs : List (ByteArray × RuleD)} {l : List S31} {i : Nat} {p : S31} (hp : rd_T31 l (i : Int) = p) (hi : 0 < i) (hle : leS p.f0 (rd_T31 l ((i - 1 : Nat) : Int)).f0 = true) : stepOk rs l i = false := by
  unfold stepOk
  rw [hp, hle, decide_eq_false (by omega)]
  simp
theorem okP_false {rs : List (ByteArray × RuleD)} {l : List S31} {i : Nat} (hi : i < l.length) (h : stepOk rs l i = false) : okP rs l = false := by
  rw [Bool.eq_false_iff]
  intro e
  have := List.all_eq_true.1 e i (List.mem_range.2 hi)
  rw [h] at this
  cases this
theorem okP_true {rs : List (ByteArray × RuleD)} {l : List S31} (h : ∀ j, j < l.length → stepOk rs l j = true) : okP rs l = true := List.all_eq_true.2 fun j hj => h j (List.mem_range.1 hj)
theorem fit_at {l : List S31} (h : fitP l = true) {i : Nat} (hi : i < l.length) : (rd_T31 l (i : Int)).f0.size < 2147483648 ∧ (rd_T31 l (i : Int)).f1.size < 2147483648 := by
  have e : rd_T31 l (i : Int) = l[i] := by unfold rd_T31; rw [Int.toNat_natCast, List.getD_eq_getElem?_getD, List.getElem?_eq_getElem hi]; rfl
  have := List.all_eq_true.1 h _ (List.getElem_mem hi)
  rw [e]
  simpa using this
theorem take_rd {l : List S31} {i : Nat} (hi : i < l.length) : l.take (i + 1) = l.take i ++ [rd_T31 l (i : Int)] := by
  have e : rd_T31 l (i : Int) = l[i] := by unfold rd_T31; rw [Int.toNat_natCast, List.getD_eq_getElem?_getD, List.getElem?_eq_getElem hi]; rfl
  rw [e, List.take_add_one, List.getElem?_eq_getElem hi]
  rfl
theorem ens_eq {nm : ByteArray} (h : (nm.toList == ([101, 110, 115, 117, 114, 101] : List UInt8)) = true) : nm = ensB := by
  have h1 := beq_iff_eq.1 h
  rw [toList_eq] at h1
  exact ByteArray.ext (Array.ext' h1)
theorem prev_cell {w W : World} {ad : Addr} {l : List S31} {i : Nat} (hr : Kd.C k31 w (some ad) l.length l) (hb : Below w.heap.size w W) (h0 : 0 < i) (h1 : i < l.length) : W.cell? (ad.add ((i - 1) * 2)) = some (.string (rd_T31 l ((i - 1 : Nat) : Int)).f0) := by
  obtain ⟨ad', e, h, _⟩ := at_T31 (Kd.C_below hr hb) ((i - 1 : Nat) : Int) (by omega) (by omega)
  cases e
  simpa using h
theorem call_may {w W0 : World} (hU : UtfOk w) {g : Nat} {lb : Array Value} {q : RuleD} {cells : List (Addr × Value)} (hm : MayC g lb q.may cells) (hc : ∀ c, c ∈ cells → W0.cell? c.1 = some c.2) {vl : ByteArray} (hv : vl.size < 2147483648) {W : World} (hb : Below w.heap.size w W) (hk : ∀ a v, W0.cell? a = some v → W.cell? a = some v) :
    Calls Tryz.prog g (#[.string vl] ++ lb) W fun e w' => e = .returned (.bool (q.may vl)) ∧ Below W.heap.size W w' := hm W (UtfOk.of_below hU hb) (fun c hc' => hk _ _ (hc c hc')) W vl hv (Below.refl _ _)
theorem field_told (t : ByteArray) (w : World) : (Instr.field 64 (.agg #[.string t]) 0).run Tryz.prog w = .ok (.string t) w := by kernel_rfl
theorem final_R {e g2 g3 B : Nat} {ok : Nat → Prop} {W : World} {v x y z : Value} {xs : List S31} (h : Kd.R k31 e W g3 ok v xs) (h2 : g2 < g3) (hB : B ≤ g3) : Kd.R k31 e (((W.setCell ⟨g2, 0, none⟩ x).setCell ⟨g2, 1, none⟩ y).setCell ⟨g2, 2, none⟩ z) B (fun _ => True) v xs := by
  have h0 : Kd.R k31 e W g3 (fun k => k ≠ g2) v xs := Kd.R_mono (Kd.R_bound h) (fun k hk e => by have := hk.2.1; omega)
  exact Kd.R_lower (Kd.R_mono (Kd.R_far (Kd.R_far (Kd.R_far h0 (fun k hk => hk) x) (fun k hk => hk) y) (fun k hk => hk) z) (fun _ _ => trivial)) hB
set_option maxRecDepth 100000 in
set_option maxHeartbeats 16000000 in
theorem full_main (a0_0 a0_1 : ByteArray) (A0_2 : Option Addr) (c0_2 : Nat) (l0_2 : List (S31)) (w : World) (hU : UtfOk w) (hr0_2 : Kd.C k31 w A0_2 l0_2.length l0_2) (hc0_2 : l0_2.length ≤ c0_2) (hlen : l0_2.length < 2147483648) (first : ByteArray) (specs : List (ByteArray × List (ByteArray × RuleD))) (h : shapesD a0_0 = some (first, specs)) (hs : a0_1.size < 2147483648) (ht : titleS a0_0 a0_1 = true) (r1 : ByteArray) (r2 : Bool) (hget : toldR (getS l0_2 ensB) = (r1, r2)) (ens : ByteArray) (he : ens = if r2 = true then r1 else first) (hes : ens.size < 2147483648) (hfit : fitP l0_2 = true) (rs : List (ByteArray × RuleD)) (hn : findK specs ens = some rs) :
    Calls Tryz.prog 11 #[.agg #[.string a0_0, .string a0_1, .slice A0_2 l0_2.length c0_2]] w (fun e w' => (okP rs l0_2 = false ∧ Refused w 62 e w') ∨ (okP rs l0_2 = true ∧ ((lacks ens l0_2 rs = true ∧ Refused w 62 e w') ∨ (lacks ens l0_2 rs = false ∧ ∃ v2_ : Value, e = .returned (.tuple #[.agg #[.string a0_0, .string a0_1, v2_], .int .i64 0]) ∧ Kd.R k31 31 w' w.heap.size (fun _ => True) v2_ (outS ens l0_2 rs) ∧ Below w.heap.size w w')))) := by
  have hu24 := Tryz.underlying24
  have HS := As.mk h
  have HU := As.mk hU
  have HR := As.mk hr0_2
  have HC := As.mk hc0_2
  have HTY := As.mk (tidy_shapes h).1
  have hf := title_f a0_0 a0_1 hs
  rw [ht] at hf
  have HTI := As.mk (fun w hw => resource_title.calls a0_0 a0_1 true w hf hw)
  have hg := get_f a0_0 a0_1 ensB l0_2 (by omega)
  rw [hget] at hg
  have HG := As.mk hg
  have HES := As.mk hes
  have hq1 := eqlNil
  have hq2 := eqlSome
  have HB := As.mk (Below.refl w.heap.size w)
  have HN := As.mk hn
  have HTR := As.mk (tidy_row (tidy_shapes h).1 hn)
  have HFIT := As.mk hfit
  have hmm := @run_makeMap Tryz.prog
  have hu31 := Tryz.underlying31
  have hu68 := Tryz.underlying68
  have hu64 := Tryz.underlying64
  have hfd := field_told
  clear h hU hf ht hg hn hr0_2 hc0_2 hget hes hfit
  have HEE := As.mk he
  clear he
  go_enter Tryz.func11, Tryz.ntmps11
  go_upto_if 45 with (first | ((with_reducible refine gate_dst (N := 1) rfl ?_); refine box_event ?hg (N := 1) ?hd (cs := #[.string a0_0, .string a0_1, .slice A0_2 l0_2.length c0_2]) (t := 24) ?hr ?_; (case hd => rfl); (case hg => rfl); (case hr => first | (go_simp; done) | (go_simp; rfl)); intro g1 hg w1 hbox hb; have GEg1 := As.mk ((by rw [hg]; exact (bZ (by repeat (first | (with_reducible first | exact HB.out | apply bA | apply bN | apply bD) | exact HB.out))) : w.heap.size ≤ g1)); have nB_ := As.mk (bT (by repeat (first | (with_reducible first | exact HB.out | apply bA | apply bN | apply bD) | exact HB.out)) hb); clear HB; have HB := nB_; clear nB_; have BKg1 := As.mk hbox; clear hb hbox hg; have c1_g1_0 : w1.cell? ⟨g1, 0, none⟩ = some (.string a0_0) := (kC BKg1.out 0).trans rfl; have f1_g1_0 := kF BKg1.out 0; have c1_g1_1 : w1.cell? ⟨g1, 1, none⟩ = some (.string a0_1) := (kC BKg1.out 1).trans rfl; have f1_g1_1 := kF BKg1.out 1; have c1_g1_2 : w1.cell? ⟨g1, 2, none⟩ = some (.slice A0_2 l0_2.length c0_2) := (kC BKg1.out 2).trans rfl; have f1_g1_2 := kF BKg1.out 2) | ((with_reducible refine gate_dst (N := 2) rfl ?_); refine box_event ?hg (N := 2) ?hd (cs := #[.string (⟨#[]⟩ : ByteArray), .string (⟨#[]⟩ : ByteArray), .slice none 0 0]) (t := 24) ?hr ?_; (case hd => rfl); (case hg => rfl); (case hr => first | (go_simp; done) | (go_simp; rfl)); intro g2 hg w2 hbox hb; have NEg1_g2 := As.mk ((by rw [hg]; exact Nat.ne_of_lt (blk_lt (w := _) BKg1.out)) : g1 ≠ g2); have GEg2 := As.mk ((by rw [hg]; exact (bZ (by repeat (first | (with_reducible first | exact HB.out | apply bA | apply bN | apply bD | refine bS ?_ GEg1.out) | exact HB.out))) : w.heap.size ≤ g2)); have ng1_ := As.mk (kB (g := g1) (o := .cells #[.string a0_0, .string a0_1, .slice A0_2 l0_2.length c0_2] 24 (0, 0)) (by (with_reducible repeat (first | refine kN ?_ _ | refine kD ?_ | refine kA ?_ _)); exact BKg1.out) hb); have nB_ := As.mk (bT (by repeat (first | (with_reducible first | exact HB.out | apply bA | apply bN | apply bD | refine bS ?_ GEg1.out) | exact HB.out)) hb); clear BKg1; have BKg1 := ng1_; clear ng1_; clear HB; have HB := nB_; clear nB_; have BKg2 := As.mk hbox; clear hb hbox hg; have c2_g1_0 : w2.cell? ⟨g1, 0, none⟩ = some (.string a0_0) := (kC BKg1.out 0).trans rfl; have f2_g1_0 := kF BKg1.out 0; have c2_g1_1 : w2.cell? ⟨g1, 1, none⟩ = some (.string a0_1) := (kC BKg1.out 1).trans rfl; have f2_g1_1 := kF BKg1.out 1; have c2_g1_2 : w2.cell? ⟨g1, 2, none⟩ = some (.slice A0_2 l0_2.length c0_2) := (kC BKg1.out 2).trans rfl; have f2_g1_2 := kF BKg1.out 2; have c2_g2_0 : w2.cell? ⟨g2, 0, none⟩ = some (.string (⟨#[]⟩ : ByteArray)) := (kC BKg2.out 0).trans rfl; have f2_g2_0 := kF BKg2.out 0; have c2_g2_1 : w2.cell? ⟨g2, 1, none⟩ = some (.string (⟨#[]⟩ : ByteArray)) := (kC BKg2.out 1).trans rfl; have f2_g2_1 := kF BKg2.out 1; have c2_g2_2 : w2.cell? ⟨g2, 2, none⟩ = some (.slice none 0 0) := (kC BKg2.out 2).trans rfl; have f2_g2_2 := kF BKg2.out 2) | (go_at_call 27; refine (shapes_some HS.out _).mono ?_; rintro e w3 ⟨b, hi, rfl, hst⟩; have hb := hst.below; have ng1_ := As.mk (kB (g := g1) (o := .cells #[.string a0_0, .string a0_1, .slice A0_2 l0_2.length c0_2] 24 (0, 0)) (by (with_reducible repeat (first | refine kN ?_ _ | refine kD ?_ | refine kA ?_ _)); exact BKg1.out) hb); have ng2_ := As.mk (kB (g := g2) (o := .cells #[.string (⟨#[]⟩ : ByteArray), .string (⟨#[]⟩ : ByteArray), .slice none 0 0] 24 (0, 0)) (by (with_reducible repeat (first | refine kN ?_ _ | refine kD ?_ | refine kA ?_ _)); exact BKg2.out) hb); have nB_ := As.mk (bT (by repeat (first | (with_reducible first | exact HB.out | apply bA | apply bN | apply bD | refine bS ?_ GEg1.out | refine bS ?_ GEg2.out) | exact HB.out)) hb); clear BKg1; have BKg1 := ng1_; clear ng1_; clear BKg2; have BKg2 := ng2_; clear ng2_; clear HB; have HB := nB_; clear nB_; have HST := As.mk hst; clear hst; clear hb; have c3_g1_0 : w3.cell? ⟨g1, 0, none⟩ = some (.string a0_0) := (kC BKg1.out 0).trans rfl; have f3_g1_0 := kF BKg1.out 0; have c3_g1_1 : w3.cell? ⟨g1, 1, none⟩ = some (.string a0_1) := (kC BKg1.out 1).trans rfl; have f3_g1_1 := kF BKg1.out 1; have c3_g1_2 : w3.cell? ⟨g1, 2, none⟩ = some (.slice A0_2 l0_2.length c0_2) := (kC BKg1.out 2).trans rfl; have f3_g1_2 := kF BKg1.out 2; have c3_g2_0 : w3.cell? ⟨g2, 0, none⟩ = some (.string (⟨#[]⟩ : ByteArray)) := (kC BKg2.out 0).trans rfl; have f3_g2_0 := kF BKg2.out 0; have c3_g2_1 : w3.cell? ⟨g2, 1, none⟩ = some (.string (⟨#[]⟩ : ByteArray)) := (kC BKg2.out 1).trans rfl; have f3_g2_1 := kF BKg2.out 1; have c3_g2_2 : w3.cell? ⟨g2, 2, none⟩ = some (.slice none 0 0) := (kC BKg2.out 2).trans rfl; have f3_g2_2 := kF BKg2.out 2) | (go_at_call 28; refine (HTI.out _ (UtfOk.of_below HU.out ((by repeat (first | (with_reducible first | exact HB.out | apply bA | apply bN | apply bD | refine bS ?_ GEg1.out | refine bS ?_ GEg2.out) | exact HB.out))))).mono ?_; rintro e w4 ⟨rfl, hb⟩; have ng1_ := As.mk (kB (g := g1) (o := .cells #[.string a0_0, .string a0_1, .slice A0_2 l0_2.length c0_2] 24 (0, 0)) (by (with_reducible repeat (first | refine kN ?_ _ | refine kD ?_ | refine kA ?_ _)); exact BKg1.out) hb); have ng2_ := As.mk (kB (g := g2) (o := .cells #[.string (⟨#[]⟩ : ByteArray), .string (⟨#[]⟩ : ByteArray), .slice none 0 0] 24 (0, 0)) (by (with_reducible repeat (first | refine kN ?_ _ | refine kD ?_ | refine kA ?_ _)); exact BKg2.out) hb); have nB_ := As.mk (bT (by repeat (first | (with_reducible first | exact HB.out | apply bA | apply bN | apply bD | refine bS ?_ GEg1.out | refine bS ?_ GEg2.out) | exact HB.out)) hb); clear BKg1; have BKg1 := ng1_; clear ng1_; clear BKg2; have BKg2 := ng2_; clear ng2_; clear HB; have HB := nB_; clear nB_; have HST2 := As.mk (St.later HST.out hb); clear HST; have HST := HST2; clear HST2; clear hb; have c4_g1_0 : w4.cell? ⟨g1, 0, none⟩ = some (.string a0_0) := (kC BKg1.out 0).trans rfl; have f4_g1_0 := kF BKg1.out 0; have c4_g1_1 : w4.cell? ⟨g1, 1, none⟩ = some (.string a0_1) := (kC BKg1.out 1).trans rfl; have f4_g1_1 := kF BKg1.out 1; have c4_g1_2 : w4.cell? ⟨g1, 2, none⟩ = some (.slice A0_2 l0_2.length c0_2) := (kC BKg1.out 2).trans rfl; have f4_g1_2 := kF BKg1.out 2; have c4_g2_0 : w4.cell? ⟨g2, 0, none⟩ = some (.string (⟨#[]⟩ : ByteArray)) := (kC BKg2.out 0).trans rfl; have f4_g2_0 := kF BKg2.out 0; have c4_g2_1 : w4.cell? ⟨g2, 1, none⟩ = some (.string (⟨#[]⟩ : ByteArray)) := (kC BKg2.out 1).trans rfl; have f4_g2_1 := kF BKg2.out 1; have c4_g2_2 : w4.cell? ⟨g2, 2, none⟩ = some (.slice none 0 0) := (kC BKg2.out 2).trans rfl; have f4_g2_2 := kF BKg2.out 2) | (go_at_call 29; refine (resource_Get.calls _ a0_0 a0_1 A0_2 c0_2 l0_2 _ _ _ _ (Kd.C_below HR.out (by repeat (first | (with_reducible first | exact HB.out | apply bA | apply bN | apply bD | refine bS ?_ GEg1.out | refine bS ?_ GEg2.out) | exact HB.out))) HC.out HG.out).mono ?_; rintro e w5 ⟨rfl, hb⟩; have ng1_ := As.mk (kB (g := g1) (o := .cells #[.string a0_0, .string a0_1, .slice A0_2 l0_2.length c0_2] 24 (0, 0)) (by (with_reducible repeat (first | refine kN ?_ _ | refine kD ?_ | refine kA ?_ _)); exact BKg1.out) hb); have ng2_ := As.mk (kB (g := g2) (o := .cells #[.string (⟨#[]⟩ : ByteArray), .string (⟨#[]⟩ : ByteArray), .slice none 0 0] 24 (0, 0)) (by (with_reducible repeat (first | refine kN ?_ _ | refine kD ?_ | refine kA ?_ _)); exact BKg2.out) hb); have nB_ := As.mk (bT (by repeat (first | (with_reducible first | exact HB.out | apply bA | apply bN | apply bD | refine bS ?_ GEg1.out | refine bS ?_ GEg2.out) | exact HB.out)) hb); clear BKg1; have BKg1 := ng1_; clear ng1_; clear BKg2; have BKg2 := ng2_; clear ng2_; clear HB; have HB := nB_; clear nB_; have HST2 := As.mk (St.later HST.out hb); clear HST; have HST := HST2; clear HST2; clear hb; have c5_g1_0 : w5.cell? ⟨g1, 0, none⟩ = some (.string a0_0) := (kC BKg1.out 0).trans rfl; have f5_g1_0 := kF BKg1.out 0; have c5_g1_1 : w5.cell? ⟨g1, 1, none⟩ = some (.string a0_1) := (kC BKg1.out 1).trans rfl; have f5_g1_1 := kF BKg1.out 1; have c5_g1_2 : w5.cell? ⟨g1, 2, none⟩ = some (.slice A0_2 l0_2.length c0_2) := (kC BKg1.out 2).trans rfl; have f5_g1_2 := kF BKg1.out 2; have c5_g2_0 : w5.cell? ⟨g2, 0, none⟩ = some (.string (⟨#[]⟩ : ByteArray)) := (kC BKg2.out 0).trans rfl; have f5_g2_0 := kF BKg2.out 0; have c5_g2_1 : w5.cell? ⟨g2, 1, none⟩ = some (.string (⟨#[]⟩ : ByteArray)) := (kC BKg2.out 1).trans rfl; have f5_g2_1 := kF BKg2.out 1; have c5_g2_2 : w5.cell? ⟨g2, 2, none⟩ = some (.slice none 0 0) := (kC BKg2.out 2).trans rfl; have f5_g2_2 := kF BKg2.out 2))
  (try simp only [Act.put, zA, zZ, zS])
  go_cut [4] (fun v4 wc => v4 = .string ens ∧ As (wc.heap[g1]? = some (.cells #[.string a0_0, .string a0_1, .slice A0_2 l0_2.length c0_2] 24 (0, 0))) ∧ As (wc.heap[g2]? = some (.cells #[.string (⟨#[]⟩ : ByteArray), .string (⟨#[]⟩ : ByteArray), .slice none 0 0] 24 (0, 0))) ∧ As (St w2 wc b hi specs) ∧ As (Below w.heap.size w wc))
  case first =>
    have he := HEE.out
    clear HEE
    cases r2
    · obtain rfl : ens = first := he
      go_wp2
      go_meet
      case rel => exact ⟨rfl, BKg1, BKg2, HST, HB⟩
    · obtain rfl : ens = r1 := he
      go_wp2
      go_meet
      case rel => exact ⟨rfl, BKg1, BKg2, HST, HB⟩
  case rest =>
    clear HEE BKg1 BKg2 HST HB
    obtain ⟨rfl, BKg1, BKg2, HST, HB⟩ := hcut
    go_wp2_with (first | ((with_reducible refine gate_look rfl ?_); refine look_row_some HST.out HTY.out rfl _ _ rfl rfl _ rfl HES.out HN.out ?_; intro bi ni li hin hn8 hka; have HIN := As.mk hin; have HN8 := As.mk hn8; have HKA := As.mk hka; clear hin hn8 hka) | ((with_reducible refine gate_insert rfl ?_); refine wpList_insert_held _ rfl _ _ _ 65 rfl 9 64 Tryz.underlying9 Tryz.underlying65 wc.heap.size 0 (.map []) ?_ (World.ownsMap_made _ _ _ _) (by decide) ensB _ rfl rfl (by decide) ?_; (focus (first | rfl | (go_simp; done) | (simp; done))); intro W0 ho hg; have HL := As.mk (LI.start (a0_0 := a0_0) (a0_1 := a0_1) (A0_2 := A0_2) (c0_2 := c0_2) (l0_2 := l0_2) HB.out BKg1.out BKg2.out GEg1.out GEg2.out HIN.out HN8.out ho hg); have HKR := As.mk (start_kept hg HKA.out); clear ho hg HST HB BKg1 BKg2 HIN HKA; have cs1 := (kC HL.out.k1 2).trans rfl))
    go_loopg [63] l0_2.length (fun kq v63 wr => ∃ i : Nat, v63 = .int .i64 i ∧ As (i + kq = l0_2.length) ∧ As (∀ j : Nat, j < i → stepOk rs l0_2 j = true) ∧ As (LI w W0 wr g1 g2 a0_0 a0_1 A0_2 c0_2 l0_2 bi ni li (wc.heap.size) (i + 1) (toldD ens (l0_2.take i))))
    case atStart => exact ⟨0, rfl, ⟨by omega⟩, ⟨fun j hj => by omega⟩, HL⟩
    case round =>
      obtain ⟨i, rfl, HK, HA, HL⟩ := hrel
      by_cases hlt : i < l0_2.length
      · have hlt' : (i : Int) < (l0_2.length : Int) := by omega
        obtain ⟨ad, ead, hx0, hx1⟩ := at_T31 (Kd.C_below HR.out HL.out.below) (i : Int) (by omega) hlt'
        cases ead
        simp only [Int.toNat_natCast] at hx0 hx1
        have hns := fit_at HFIT.out hlt
        have hsn := take_rd hlt
        obtain ⟨p, hp⟩ : ∃ p, rd_T31 l0_2 (i : Int) = p := ⟨_, rfl⟩
        rw [hp] at hx0 hx1 hns hsn
        have HP := As.mk hp
        have HSN := As.mk hsn
        clear hp hsn
        obtain ⟨nm, vl⟩ := p
        simp only [] at hx0 hx1 hns
        have HNS := As.mk hns
        clear hns
        have cr2 := (kC HL.out.k1 2).trans rfl
        cases be : (nm.toList == ([101, 110, 115, 117, 114, 101] : List UInt8)) with
        | true =>
          have be2 : (nm.toList != ([101, 110, 115, 117, 114, 101] : List UInt8)) = false := by rw [bne, be]; rfl
          have HE := As.mk be
          have HF := As.mk ((by rw [ens_eq be]; exact HTR.out.2.1) : findK rs nm = none)
          go_wp2_with (first | ((with_reducible refine gate_dst (N := 12) rfl ?_); refine box_event ?hg (N := 12) ?hd (cs := #[.string (⟨#[]⟩ : ByteArray), .string (⟨#[]⟩ : ByteArray)]) (t := 31) ?hr ?_; (case hd => rfl); (case hg => rfl); (case hr => first | (go_simp; done) | (go_simp; rfl)); intro gp hg w6 hbox hb; have GEgp := As.mk ((by rw [hg]; exact HL.out.size) : W0.heap.size ≤ gp); have nL_ := As.mk (LI.later HL.out hb); clear HL; have HL := nL_; clear nL_; have BKgp := As.mk hbox; clear hb hbox hg; have c6_gp_0 : w6.cell? ⟨gp, 0, none⟩ = some (.string (⟨#[]⟩ : ByteArray)) := (kC BKgp.out 0).trans rfl; have f6_gp_0 := kF BKgp.out 0; have c6_gp_1 : w6.cell? ⟨gp, 1, none⟩ = some (.string (⟨#[]⟩ : ByteArray)) := (kC BKgp.out 1).trans rfl; have f6_gp_1 := kF BKgp.out 1) | ((with_reducible refine gate_store (t := 31) (p := 12) rfl ?_); refine store_event (t := 31) (p := 12) (v := ?vo7) (w1 := ?wo7) ?hg ?ho ?hn ?hr ?_; (case ho => rfl); (case hg => rfl); (case hn => rfl); (case hr => first | (go_simp; done) | (go_simp; rfl)); intro w7 hw; have ngp_ := As.mk ((by rw [hw]; refine kP (cs := #[(.string nm), .string (⟨#[]⟩ : ByteArray)]) ?_ 1 _ rfl; refine kP (cs := #[.string (⟨#[]⟩ : ByteArray), .string (⟨#[]⟩ : ByteArray)]) ?_ 0 _ rfl; (with_reducible repeat (first | refine kN ?_ _ | refine kD ?_ | refine kA ?_ _)); exact BKgp.out) : w7.heap[gp]? = some (.cells #[(.string nm), (.string vl)] 31 (0, 0))); have nL_ := As.mk (LI.set (i := 1) (v := (.string vl)) (LI.set (i := 0) (v := (.string nm)) (HL.out) (BKgp.out) GEgp.out) (kP (cs' := #[(.string nm), .string (⟨#[]⟩ : ByteArray)]) (BKgp.out) 0 ((.string nm)) rfl) GEgp.out); rw [← hw] at nL_; clear BKgp; have BKgp := ngp_; clear ngp_; clear HL; have HL := nL_; clear nL_; clear hw; have c7_gp_0 : w7.cell? ⟨gp, 0, none⟩ = some ((.string nm)) := (kC BKgp.out 0).trans rfl; have f7_gp_0 := kF BKgp.out 0; have c7_gp_1 : w7.cell? ⟨gp, 1, none⟩ = some ((.string vl)) := (kC BKgp.out 1).trans rfl; have f7_gp_1 := kF BKgp.out 1) | ((with_reducible refine gate_look rfl ?_); refine look_rule_none HL.out.inner HKR.out HTR.out.1 rfl _ _ rfl rfl nm rfl HNS.out.1 HF.out ?_) | ((with_reducible refine gate_dst (N := 13) rfl ?_); refine box_event ?hg (N := 13) ?hd (cs := #[.string (⟨#[]⟩ : ByteArray), .bool false, .nilFunc]) (t := 68) ?hr ?_; (case hd => rfl); (case hg => rfl); (case hr => first | (go_simp; done) | (go_simp; rfl)); intro gx hg w8 hbox hb; have NEgp_gx := As.mk ((by rw [hg]; exact Nat.ne_of_lt (blk_lt (w := _) BKgp.out)) : gp ≠ gx); have GEgx := As.mk ((by rw [hg]; exact HL.out.size) : W0.heap.size ≤ gx); have ngp_ := As.mk (kB (g := gp) (o := .cells #[(.string nm), (.string vl)] 31 (0, 0)) (by (with_reducible repeat (first | refine kN ?_ _ | refine kD ?_ | refine kA ?_ _)); exact BKgp.out) hb); have nL_ := As.mk (LI.later HL.out hb); clear BKgp; have BKgp := ngp_; clear ngp_; clear HL; have HL := nL_; clear nL_; have BKgx := As.mk hbox; clear hb hbox hg; have c8_gp_0 : w8.cell? ⟨gp, 0, none⟩ = some ((.string nm)) := (kC BKgp.out 0).trans rfl; have f8_gp_0 := kF BKgp.out 0; have c8_gp_1 : w8.cell? ⟨gp, 1, none⟩ = some ((.string vl)) := (kC BKgp.out 1).trans rfl; have f8_gp_1 := kF BKgp.out 1; have c8_gx_0 : w8.cell? ⟨gx, 0, none⟩ = some (.string (⟨#[]⟩ : ByteArray)) := (kC BKgx.out 0).trans rfl; have f8_gx_0 := kF BKgx.out 0; have c8_gx_1 : w8.cell? ⟨gx, 1, none⟩ = some (.bool false) := (kC BKgx.out 1).trans rfl; have f8_gx_1 := kF BKgx.out 1; have c8_gx_2 : w8.cell? ⟨gx, 2, none⟩ = some (.nilFunc) := (kC BKgx.out 2).trans rfl; have f8_gx_2 := kF BKgx.out 2) | ((with_reducible refine gate_store (t := 68) (p := 13) rfl ?_); refine store_event (t := 68) (p := 13) (v := ?vo9) (w1 := ?wo9) ?hg ?ho ?hn ?hr ?_; (case ho => rfl); (case hg => rfl); (case hn => rfl); (case hr => first | (go_simp; done) | (go_simp; rfl)); intro w9 hw; have ngp_ := As.mk ((by rw [hw]; (repeat refine kR ?_ NEgp_gx.out _); (with_reducible repeat (first | refine kN ?_ _ | refine kD ?_ | refine kA ?_ _)); exact BKgp.out) : w9.heap[gp]? = some (.cells #[(.string nm), (.string vl)] 31 (0, 0))); have ngx_ := As.mk ((by rw [hw]; refine kP (cs := #[(.string (⟨#[]⟩ : ByteArray)), (.bool false), .nilFunc]) ?_ 2 _ rfl; refine kP (cs := #[(.string (⟨#[]⟩ : ByteArray)), .bool false, .nilFunc]) ?_ 1 _ rfl; refine kP (cs := #[.string (⟨#[]⟩ : ByteArray), .bool false, .nilFunc]) ?_ 0 _ rfl; (with_reducible repeat (first | refine kN ?_ _ | refine kD ?_ | refine kA ?_ _)); exact BKgx.out) : w9.heap[gx]? = some (.cells #[(.string (⟨#[]⟩ : ByteArray)), (.bool false), .nilFunc] 68 (0, 0))); have nL_ := As.mk (LI.set (i := 2) (v := .nilFunc) (LI.set (i := 1) (v := (.bool false)) (LI.set (i := 0) (v := (.string (⟨#[]⟩ : ByteArray))) (HL.out) (BKgx.out) GEgx.out) (kP (cs' := #[(.string (⟨#[]⟩ : ByteArray)), .bool false, .nilFunc]) (BKgx.out) 0 ((.string (⟨#[]⟩ : ByteArray))) rfl) GEgx.out) (kP (cs' := #[(.string (⟨#[]⟩ : ByteArray)), (.bool false), .nilFunc]) (kP (cs' := #[(.string (⟨#[]⟩ : ByteArray)), .bool false, .nilFunc]) (BKgx.out) 0 ((.string (⟨#[]⟩ : ByteArray))) rfl) 1 ((.bool false)) rfl) GEgx.out); rw [← hw] at nL_; clear BKgp; have BKgp := ngp_; clear ngp_; clear BKgx; have BKgx := ngx_; clear ngx_; clear HL; have HL := nL_; clear nL_; clear hw; have c9_gp_0 : w9.cell? ⟨gp, 0, none⟩ = some ((.string nm)) := (kC BKgp.out 0).trans rfl; have f9_gp_0 := kF BKgp.out 0; have c9_gp_1 : w9.cell? ⟨gp, 1, none⟩ = some ((.string vl)) := (kC BKgp.out 1).trans rfl; have f9_gp_1 := kF BKgp.out 1; have c9_gx_0 : w9.cell? ⟨gx, 0, none⟩ = some ((.string (⟨#[]⟩ : ByteArray))) := (kC BKgx.out 0).trans rfl; have f9_gx_0 := kF BKgx.out 0; have c9_gx_1 : w9.cell? ⟨gx, 1, none⟩ = some ((.bool false)) := (kC BKgx.out 1).trans rfl; have f9_gx_1 := kF BKgx.out 1; have c9_gx_2 : w9.cell? ⟨gx, 2, none⟩ = some (.nilFunc) := (kC BKgx.out 2).trans rfl; have f9_gx_2 := kF BKgx.out 2))
          rcases Nat.eq_zero_or_pos i with hi0 | hi0
          · have hi1 : ¬ ((0 : Int) < (i : Int)) := by omega
            have hz := decide_eq_false hi1
            refine r17_A0 (fun W' => LI w W0 W' g1 g2 a0_0 a0_1 (some ad) c0_2 l0_2 bi ni li (wc.heap.size) (i + 1) (toldD ens (l0_2.take i)) ∧ W'.heap[gp]? = some (.cells #[.string nm, .string vl] 31 (0, 0)) ∧ W'.heap[gx]? = some (.cells #[(.string (⟨#[]⟩ : ByteArray)), (.bool false), .nilFunc] 68 (0, 0))) gp gx g1 i nm vl rfl rfl rfl rfl rfl rfl ⟨LI.later HL.out (bD (Below.refl _ _)), BKgp.out, BKgx.out⟩ (fun W h => (kC h.2.1 0).trans rfl) be2 hz (fun wS hS => ?_)
            have HLs := As.mk hS.1
            have cp0 := (kC hS.2.1 0).trans (rfl : _ = some (Value.string nm))
            have cp1 := (kC hS.2.1 1).trans (rfl : _ = some (Value.string vl))
            clear hS HL BKgp BKgx
            have zs0 : wS.cell? ⟨g2, 0, none⟩ = some (.string (⟨#[]⟩ : ByteArray)) := (kC HLs.out.k2 0).trans rfl
            have ys0 := kF HLs.out.k2 0
            have zs1 : wS.cell? ⟨g2, 1, none⟩ = some (.string (⟨#[]⟩ : ByteArray)) := (kC HLs.out.k2 1).trans rfl
            have ys1 := kF HLs.out.k2 1
            have zs2 : wS.cell? ⟨g2, 2, none⟩ = some (.slice none 0 0) := (kC HLs.out.k2 2).trans rfl
            have ys2 := kF HLs.out.k2 2
            simp only [actE, d17, List.replicate_succ, List.replicate_zero, if_true, Act.put, List.setIfInBounds_toArray, List.set_cons_succ, List.set_cons_zero]
            go_wp2_with (first | ((with_reducible refine gate_update rfl ?_); refine wpList_update_held _ rfl _ _ _ 65 rfl 9 64 Tryz.underlying9 Tryz.underlying65 (wc.heap.size) (i + 1) (toldD ens (l0_2.take i)) rfl HLs.out.has (by have := HK.out; unfold maxLen; omega) nm _ rfl rfl (by have := HNS.out.1; unfold maxLen; omega) ?_; intro wU ho hg; have HL2 := As.mk (LI.put HLs.out ho hg); clear ho hg))
            go_roundg (l0_2.length - (i + 1))
            case measure => have := HK.out; omega
            case rel =>
              refine ⟨i + 1, by go_num, ⟨by omega⟩, ⟨fun j hj => ?_⟩, ⟨by rw [HSN.out, toldD_snoc]; exact HL2.out⟩⟩
              by_cases ej : j = i
              · subst ej; exact (by subst hi0; exact step_first HP.out (known_ens HE.out))
              · exact HA.out j (by omega)
          · have hi1 : (0 : Int) < (i : Int) := by omega
            have hz := decide_eq_true hi1
            have hw1 : IntKind.i64.wrap ((i : Int) - 1) = (i : Int) - 1 := by rw [IntKind.wrap_i64]; omega
            have hv0 : (0 : Int) ≤ (i : Int) - 1 := by omega
            have hv1 : (i : Int) - 1 < (l0_2.length : Int) := by omega
            obtain ⟨pn, hpn⟩ : ∃ pn, (rd_T31 l0_2 ((i - 1 : Nat) : Int)).f0 = pn := ⟨_, rfl⟩
            have HPV := As.mk hpn
            clear hpn
            cases hle : (Op.bytesLess nm.toList pn.toList || nm.toList == pn.toList) with
            | true =>
              have HLE := As.mk hle
              refine r17_Ale (fun W' => LI w W0 W' g1 g2 a0_0 a0_1 (some ad) c0_2 l0_2 bi ni li (wc.heap.size) (i + 1) (toldD ens (l0_2.take i)) ∧ W'.heap[gp]? = some (.cells #[.string nm, .string vl] 31 (0, 0)) ∧ W'.heap[gx]? = some (.cells #[(.string (⟨#[]⟩ : ByteArray)), (.bool false), .nilFunc] 68 (0, 0))) gp gx g1 i nm vl rfl rfl rfl rfl rfl rfl ⟨LI.later HL.out (bD (Below.refl _ _)), BKgp.out, BKgx.out⟩ (fun W h => (kC h.2.1 0).trans rfl) be2 hz l0_2 c0_2 ad pn hw1 hv0 hv1 (fun W h => (kC h.1.k1 2).trans rfl) (fun W h => by rw [prev_cell HR.out h.1.below hi0 hlt, HPV.out]) hle (fun wS hS => ?_)
              have HLs := As.mk hS.1
              have cp0 := (kC hS.2.1 0).trans (rfl : _ = some (Value.string nm))
              have cp1 := (kC hS.2.1 1).trans (rfl : _ = some (Value.string vl))
              clear hS HL BKgp BKgx
              have zs0 : wS.cell? ⟨g2, 0, none⟩ = some (.string (⟨#[]⟩ : ByteArray)) := (kC HLs.out.k2 0).trans rfl
              have ys0 := kF HLs.out.k2 0
              have zs1 : wS.cell? ⟨g2, 1, none⟩ = some (.string (⟨#[]⟩ : ByteArray)) := (kC HLs.out.k2 1).trans rfl
              have ys1 := kF HLs.out.k2 1
              have zs2 : wS.cell? ⟨g2, 2, none⟩ = some (.slice none 0 0) := (kC HLs.out.k2 2).trans rfl
              have ys2 := kF HLs.out.k2 2
              simp only [actE, d17, List.replicate_succ, List.replicate_zero, if_true, Act.put, List.setIfInBounds_toArray, List.set_cons_succ, List.set_cons_zero]
              go_wp2
              refine bodyPost_ret (results_ct rfl _ _ g2 24 #[.string (⟨#[]⟩ : ByteArray), .string (⟨#[]⟩ : ByteArray), .slice none 0 0] (0, 0) _ rfl (by (with_reducible repeat (first | refine kN ?_ _ | refine kD ?_ | refine kA ?_ _)); refine kP (cs := #[.string (⟨#[]⟩ : ByteArray), .string (⟨#[]⟩ : ByteArray), .slice none 0 0]) ?_ 2 _ rfl; refine kP (cs := #[.string (⟨#[]⟩ : ByteArray), .string (⟨#[]⟩ : ByteArray), .slice none 0 0]) ?_ 1 _ rfl; refine kP (cs := #[.string (⟨#[]⟩ : ByteArray), .string (⟨#[]⟩ : ByteArray), .slice none 0 0]) ?_ 0 _ rfl; (with_reducible repeat (first | refine kN ?_ _ | refine kD ?_ | refine kA ?_ _)); exact HLs.out.k2) Tryz.underlying24 rfl (by kernel_rfl)) rfl ?_
              exact .inl ⟨okP_false hlt (step_order HP.out hi0 (by rw [HPV.out]; exact HLE.out)), rfl, (by repeat (first | exact HLs.out.below | refine bS ?_ HLs.out.e2 | apply bN | apply bD))⟩
            | false =>
              have HLE := As.mk hle
              refine r17_Aok (fun W' => LI w W0 W' g1 g2 a0_0 a0_1 (some ad) c0_2 l0_2 bi ni li (wc.heap.size) (i + 1) (toldD ens (l0_2.take i)) ∧ W'.heap[gp]? = some (.cells #[.string nm, .string vl] 31 (0, 0)) ∧ W'.heap[gx]? = some (.cells #[(.string (⟨#[]⟩ : ByteArray)), (.bool false), .nilFunc] 68 (0, 0))) gp gx g1 i nm vl rfl rfl rfl rfl rfl rfl ⟨LI.later HL.out (bD (Below.refl _ _)), BKgp.out, BKgx.out⟩ (fun W h => (kC h.2.1 0).trans rfl) be2 hz l0_2 c0_2 ad pn hw1 hv0 hv1 (fun W h => (kC h.1.k1 2).trans rfl) (fun W h => by rw [prev_cell HR.out h.1.below hi0 hlt, HPV.out]) hle (fun wS hS => ?_)
              have HLs := As.mk hS.1
              have cp0 := (kC hS.2.1 0).trans (rfl : _ = some (Value.string nm))
              have cp1 := (kC hS.2.1 1).trans (rfl : _ = some (Value.string vl))
              clear hS HL BKgp BKgx
              have zs0 : wS.cell? ⟨g2, 0, none⟩ = some (.string (⟨#[]⟩ : ByteArray)) := (kC HLs.out.k2 0).trans rfl
              have ys0 := kF HLs.out.k2 0
              have zs1 : wS.cell? ⟨g2, 1, none⟩ = some (.string (⟨#[]⟩ : ByteArray)) := (kC HLs.out.k2 1).trans rfl
              have ys1 := kF HLs.out.k2 1
              have zs2 : wS.cell? ⟨g2, 2, none⟩ = some (.slice none 0 0) := (kC HLs.out.k2 2).trans rfl
              have ys2 := kF HLs.out.k2 2
              simp only [actE, d17, List.replicate_succ, List.replicate_zero, if_true, Act.put, List.setIfInBounds_toArray, List.set_cons_succ, List.set_cons_zero]
              go_wp2_with (first | ((with_reducible refine gate_update rfl ?_); refine wpList_update_held _ rfl _ _ _ 65 rfl 9 64 Tryz.underlying9 Tryz.underlying65 (wc.heap.size) (i + 1) (toldD ens (l0_2.take i)) rfl HLs.out.has (by have := HK.out; unfold maxLen; omega) nm _ rfl rfl (by have := HNS.out.1; unfold maxLen; omega) ?_; intro wU ho hg; have HL2 := As.mk (LI.put HLs.out ho hg); clear ho hg))
              go_roundg (l0_2.length - (i + 1))
              case measure => have := HK.out; omega
              case rel =>
                refine ⟨i + 1, by go_num, ⟨by omega⟩, ⟨fun j hj => ?_⟩, ⟨by rw [HSN.out, toldD_snoc]; exact HL2.out⟩⟩
                by_cases ej : j = i
                · subst ej; exact step_next HP.out (known_ens HE.out) (by rw [HPV.out]; exact HLE.out)
                · exact HA.out j (by omega)
        | false =>
          have be2 : (nm.toList != ([101, 110, 115, 117, 114, 101] : List UInt8)) = true := by rw [bne, be]; rfl
          have HE := As.mk be
          cases hf : findK rs nm with
          | none =>
            have HF := As.mk hf
            clear hf
            go_wp2_with (first | ((with_reducible refine gate_dst (N := 12) rfl ?_); refine box_event ?hg (N := 12) ?hd (cs := #[.string (⟨#[]⟩ : ByteArray), .string (⟨#[]⟩ : ByteArray)]) (t := 31) ?hr ?_; (case hd => rfl); (case hg => rfl); (case hr => first | (go_simp; done) | (go_simp; rfl)); intro gp hg w10 hbox hb; have GEgp := As.mk ((by rw [hg]; exact HL.out.size) : W0.heap.size ≤ gp); have nL_ := As.mk (LI.later HL.out hb); clear HL; have HL := nL_; clear nL_; have BKgp := As.mk hbox; clear hb hbox hg; have c10_gp_0 : w10.cell? ⟨gp, 0, none⟩ = some (.string (⟨#[]⟩ : ByteArray)) := (kC BKgp.out 0).trans rfl; have f10_gp_0 := kF BKgp.out 0; have c10_gp_1 : w10.cell? ⟨gp, 1, none⟩ = some (.string (⟨#[]⟩ : ByteArray)) := (kC BKgp.out 1).trans rfl; have f10_gp_1 := kF BKgp.out 1) | ((with_reducible refine gate_store (t := 31) (p := 12) rfl ?_); refine store_event (t := 31) (p := 12) (v := ?vo11) (w1 := ?wo11) ?hg ?ho ?hn ?hr ?_; (case ho => rfl); (case hg => rfl); (case hn => rfl); (case hr => first | (go_simp; done) | (go_simp; rfl)); intro w11 hw; have ngp_ := As.mk ((by rw [hw]; refine kP (cs := #[(.string nm), .string (⟨#[]⟩ : ByteArray)]) ?_ 1 _ rfl; refine kP (cs := #[.string (⟨#[]⟩ : ByteArray), .string (⟨#[]⟩ : ByteArray)]) ?_ 0 _ rfl; (with_reducible repeat (first | refine kN ?_ _ | refine kD ?_ | refine kA ?_ _)); exact BKgp.out) : w11.heap[gp]? = some (.cells #[(.string nm), (.string vl)] 31 (0, 0))); have nL_ := As.mk (LI.set (i := 1) (v := (.string vl)) (LI.set (i := 0) (v := (.string nm)) (HL.out) (BKgp.out) GEgp.out) (kP (cs' := #[(.string nm), .string (⟨#[]⟩ : ByteArray)]) (BKgp.out) 0 ((.string nm)) rfl) GEgp.out); rw [← hw] at nL_; clear BKgp; have BKgp := ngp_; clear ngp_; clear HL; have HL := nL_; clear nL_; clear hw; have c11_gp_0 : w11.cell? ⟨gp, 0, none⟩ = some ((.string nm)) := (kC BKgp.out 0).trans rfl; have f11_gp_0 := kF BKgp.out 0; have c11_gp_1 : w11.cell? ⟨gp, 1, none⟩ = some ((.string vl)) := (kC BKgp.out 1).trans rfl; have f11_gp_1 := kF BKgp.out 1) | ((with_reducible refine gate_look rfl ?_); refine look_rule_none HL.out.inner HKR.out HTR.out.1 rfl _ _ rfl rfl nm rfl HNS.out.1 HF.out ?_) | ((with_reducible refine gate_dst (N := 13) rfl ?_); refine box_event ?hg (N := 13) ?hd (cs := #[.string (⟨#[]⟩ : ByteArray), .bool false, .nilFunc]) (t := 68) ?hr ?_; (case hd => rfl); (case hg => rfl); (case hr => first | (go_simp; done) | (go_simp; rfl)); intro gx hg w12 hbox hb; have NEgp_gx := As.mk ((by rw [hg]; exact Nat.ne_of_lt (blk_lt (w := _) BKgp.out)) : gp ≠ gx); have GEgx := As.mk ((by rw [hg]; exact HL.out.size) : W0.heap.size ≤ gx); have ngp_ := As.mk (kB (g := gp) (o := .cells #[(.string nm), (.string vl)] 31 (0, 0)) (by (with_reducible repeat (first | refine kN ?_ _ | refine kD ?_ | refine kA ?_ _)); exact BKgp.out) hb); have nL_ := As.mk (LI.later HL.out hb); clear BKgp; have BKgp := ngp_; clear ngp_; clear HL; have HL := nL_; clear nL_; have BKgx := As.mk hbox; clear hb hbox hg; have c12_gp_0 : w12.cell? ⟨gp, 0, none⟩ = some ((.string nm)) := (kC BKgp.out 0).trans rfl; have f12_gp_0 := kF BKgp.out 0; have c12_gp_1 : w12.cell? ⟨gp, 1, none⟩ = some ((.string vl)) := (kC BKgp.out 1).trans rfl; have f12_gp_1 := kF BKgp.out 1; have c12_gx_0 : w12.cell? ⟨gx, 0, none⟩ = some (.string (⟨#[]⟩ : ByteArray)) := (kC BKgx.out 0).trans rfl; have f12_gx_0 := kF BKgx.out 0; have c12_gx_1 : w12.cell? ⟨gx, 1, none⟩ = some (.bool false) := (kC BKgx.out 1).trans rfl; have f12_gx_1 := kF BKgx.out 1; have c12_gx_2 : w12.cell? ⟨gx, 2, none⟩ = some (.nilFunc) := (kC BKgx.out 2).trans rfl; have f12_gx_2 := kF BKgx.out 2) | ((with_reducible refine gate_store (t := 68) (p := 13) rfl ?_); refine store_event (t := 68) (p := 13) (v := ?vo13) (w1 := ?wo13) ?hg ?ho ?hn ?hr ?_; (case ho => rfl); (case hg => rfl); (case hn => rfl); (case hr => first | (go_simp; done) | (go_simp; rfl)); intro w13 hw; have ngp_ := As.mk ((by rw [hw]; (repeat refine kR ?_ NEgp_gx.out _); (with_reducible repeat (first | refine kN ?_ _ | refine kD ?_ | refine kA ?_ _)); exact BKgp.out) : w13.heap[gp]? = some (.cells #[(.string nm), (.string vl)] 31 (0, 0))); have ngx_ := As.mk ((by rw [hw]; refine kP (cs := #[(.string (⟨#[]⟩ : ByteArray)), (.bool false), .nilFunc]) ?_ 2 _ rfl; refine kP (cs := #[(.string (⟨#[]⟩ : ByteArray)), .bool false, .nilFunc]) ?_ 1 _ rfl; refine kP (cs := #[.string (⟨#[]⟩ : ByteArray), .bool false, .nilFunc]) ?_ 0 _ rfl; (with_reducible repeat (first | refine kN ?_ _ | refine kD ?_ | refine kA ?_ _)); exact BKgx.out) : w13.heap[gx]? = some (.cells #[(.string (⟨#[]⟩ : ByteArray)), (.bool false), .nilFunc] 68 (0, 0))); have nL_ := As.mk (LI.set (i := 2) (v := .nilFunc) (LI.set (i := 1) (v := (.bool false)) (LI.set (i := 0) (v := (.string (⟨#[]⟩ : ByteArray))) (HL.out) (BKgx.out) GEgx.out) (kP (cs' := #[(.string (⟨#[]⟩ : ByteArray)), .bool false, .nilFunc]) (BKgx.out) 0 ((.string (⟨#[]⟩ : ByteArray))) rfl) GEgx.out) (kP (cs' := #[(.string (⟨#[]⟩ : ByteArray)), (.bool false), .nilFunc]) (kP (cs' := #[(.string (⟨#[]⟩ : ByteArray)), .bool false, .nilFunc]) (BKgx.out) 0 ((.string (⟨#[]⟩ : ByteArray))) rfl) 1 ((.bool false)) rfl) GEgx.out); rw [← hw] at nL_; clear BKgp; have BKgp := ngp_; clear ngp_; clear BKgx; have BKgx := ngx_; clear ngx_; clear HL; have HL := nL_; clear nL_; clear hw; have c13_gp_0 : w13.cell? ⟨gp, 0, none⟩ = some ((.string nm)) := (kC BKgp.out 0).trans rfl; have f13_gp_0 := kF BKgp.out 0; have c13_gp_1 : w13.cell? ⟨gp, 1, none⟩ = some ((.string vl)) := (kC BKgp.out 1).trans rfl; have f13_gp_1 := kF BKgp.out 1; have c13_gx_0 : w13.cell? ⟨gx, 0, none⟩ = some ((.string (⟨#[]⟩ : ByteArray))) := (kC BKgx.out 0).trans rfl; have f13_gx_0 := kF BKgx.out 0; have c13_gx_1 : w13.cell? ⟨gx, 1, none⟩ = some ((.bool false)) := (kC BKgx.out 1).trans rfl; have f13_gx_1 := kF BKgx.out 1; have c13_gx_2 : w13.cell? ⟨gx, 2, none⟩ = some (.nilFunc) := (kC BKgx.out 2).trans rfl; have f13_gx_2 := kF BKgx.out 2))
            refine r17_B (fun W' => LI w W0 W' g1 g2 a0_0 a0_1 (some ad) c0_2 l0_2 bi ni li (wc.heap.size) (i + 1) (toldD ens (l0_2.take i)) ∧ W'.heap[gp]? = some (.cells #[.string nm, .string vl] 31 (0, 0)) ∧ W'.heap[gx]? = some (.cells #[(.string (⟨#[]⟩ : ByteArray)), (.bool false), .nilFunc] 68 (0, 0))) gp gx g1 i nm vl rfl rfl rfl rfl rfl rfl ⟨LI.later HL.out (bD (Below.refl _ _)), BKgp.out, BKgx.out⟩ (fun W h => (kC h.2.1 0).trans rfl) be2 (fun wS hS => ?_)
            have HLs := As.mk hS.1
            have cp0 := (kC hS.2.1 0).trans (rfl : _ = some (Value.string nm))
            have cp1 := (kC hS.2.1 1).trans (rfl : _ = some (Value.string vl))
            clear hS HL BKgp BKgx
            have zs0 : wS.cell? ⟨g2, 0, none⟩ = some (.string (⟨#[]⟩ : ByteArray)) := (kC HLs.out.k2 0).trans rfl
            have ys0 := kF HLs.out.k2 0
            have zs1 : wS.cell? ⟨g2, 1, none⟩ = some (.string (⟨#[]⟩ : ByteArray)) := (kC HLs.out.k2 1).trans rfl
            have ys1 := kF HLs.out.k2 1
            have zs2 : wS.cell? ⟨g2, 2, none⟩ = some (.slice none 0 0) := (kC HLs.out.k2 2).trans rfl
            have ys2 := kF HLs.out.k2 2
            simp only [actE, d17, List.replicate_succ, List.replicate_zero, if_true, Act.put, List.setIfInBounds_toArray, List.set_cons_succ, List.set_cons_zero]
            go_wp2
            refine bodyPost_ret (results_ct rfl _ _ g2 24 #[.string (⟨#[]⟩ : ByteArray), .string (⟨#[]⟩ : ByteArray), .slice none 0 0] (0, 0) _ rfl (by (with_reducible repeat (first | refine kN ?_ _ | refine kD ?_ | refine kA ?_ _)); refine kP (cs := #[.string (⟨#[]⟩ : ByteArray), .string (⟨#[]⟩ : ByteArray), .slice none 0 0]) ?_ 2 _ rfl; refine kP (cs := #[.string (⟨#[]⟩ : ByteArray), .string (⟨#[]⟩ : ByteArray), .slice none 0 0]) ?_ 1 _ rfl; refine kP (cs := #[.string (⟨#[]⟩ : ByteArray), .string (⟨#[]⟩ : ByteArray), .slice none 0 0]) ?_ 0 _ rfl; (with_reducible repeat (first | refine kN ?_ _ | refine kD ?_ | refine kA ?_ _)); exact HLs.out.k2) Tryz.underlying24 rfl (by kernel_rfl)) rfl ?_
            exact .inl ⟨okP_false hlt (step_unknown HP.out (known_none HE.out HF.out)), rfl, (by repeat (first | exact HLs.out.below | refine bS ?_ HLs.out.e2 | apply bN | apply bD))⟩
          | some q =>
            have HF := As.mk hf
            clear hf
            cases hmy : q.may vl with
            | false =>
              have HM := As.mk hmy
              clear hmy
              go_wp2_with (first | ((with_reducible refine gate_dst (N := 12) rfl ?_); refine box_event ?hg (N := 12) ?hd (cs := #[.string (⟨#[]⟩ : ByteArray), .string (⟨#[]⟩ : ByteArray)]) (t := 31) ?hr ?_; (case hd => rfl); (case hg => rfl); (case hr => first | (go_simp; done) | (go_simp; rfl)); intro gp hg w14 hbox hb; have GEgp := As.mk ((by rw [hg]; exact HL.out.size) : W0.heap.size ≤ gp); have nL_ := As.mk (LI.later HL.out hb); clear HL; have HL := nL_; clear nL_; have BKgp := As.mk hbox; clear hb hbox hg; have c14_gp_0 : w14.cell? ⟨gp, 0, none⟩ = some (.string (⟨#[]⟩ : ByteArray)) := (kC BKgp.out 0).trans rfl; have f14_gp_0 := kF BKgp.out 0; have c14_gp_1 : w14.cell? ⟨gp, 1, none⟩ = some (.string (⟨#[]⟩ : ByteArray)) := (kC BKgp.out 1).trans rfl; have f14_gp_1 := kF BKgp.out 1) | ((with_reducible refine gate_store (t := 31) (p := 12) rfl ?_); refine store_event (t := 31) (p := 12) (v := ?vo15) (w1 := ?wo15) ?hg ?ho ?hn ?hr ?_; (case ho => rfl); (case hg => rfl); (case hn => rfl); (case hr => first | (go_simp; done) | (go_simp; rfl)); intro w15 hw; have ngp_ := As.mk ((by rw [hw]; refine kP (cs := #[(.string nm), .string (⟨#[]⟩ : ByteArray)]) ?_ 1 _ rfl; refine kP (cs := #[.string (⟨#[]⟩ : ByteArray), .string (⟨#[]⟩ : ByteArray)]) ?_ 0 _ rfl; (with_reducible repeat (first | refine kN ?_ _ | refine kD ?_ | refine kA ?_ _)); exact BKgp.out) : w15.heap[gp]? = some (.cells #[(.string nm), (.string vl)] 31 (0, 0))); have nL_ := As.mk (LI.set (i := 1) (v := (.string vl)) (LI.set (i := 0) (v := (.string nm)) (HL.out) (BKgp.out) GEgp.out) (kP (cs' := #[(.string nm), .string (⟨#[]⟩ : ByteArray)]) (BKgp.out) 0 ((.string nm)) rfl) GEgp.out); rw [← hw] at nL_; clear BKgp; have BKgp := ngp_; clear ngp_; clear HL; have HL := nL_; clear nL_; clear hw; have c15_gp_0 : w15.cell? ⟨gp, 0, none⟩ = some ((.string nm)) := (kC BKgp.out 0).trans rfl; have f15_gp_0 := kF BKgp.out 0; have c15_gp_1 : w15.cell? ⟨gp, 1, none⟩ = some ((.string vl)) := (kC BKgp.out 1).trans rfl; have f15_gp_1 := kF BKgp.out 1) | ((with_reducible refine gate_look rfl ?_); refine look_rule_some HL.out.inner HKR.out HTR.out.1 rfl _ _ rfl rfl nm rfl HNS.out.1 q HF.out ?_; intro g lb cells eg hm hc; have hm2 := As.mk hm; have hc2 := As.mk hc; clear hm hc) | ((with_reducible refine gate_dst (N := 13) rfl ?_); refine box_event ?hg (N := 13) ?hd (cs := #[.string (⟨#[]⟩ : ByteArray), .bool false, .nilFunc]) (t := 68) ?hr ?_; (case hd => rfl); (case hg => rfl); (case hr => first | (go_simp; done) | (go_simp; rfl)); intro gx hg w16 hbox hb; have NEgp_gx := As.mk ((by rw [hg]; exact Nat.ne_of_lt (blk_lt (w := _) BKgp.out)) : gp ≠ gx); have GEgx := As.mk ((by rw [hg]; exact HL.out.size) : W0.heap.size ≤ gx); have ngp_ := As.mk (kB (g := gp) (o := .cells #[(.string nm), (.string vl)] 31 (0, 0)) (by (with_reducible repeat (first | refine kN ?_ _ | refine kD ?_ | refine kA ?_ _)); exact BKgp.out) hb); have nL_ := As.mk (LI.later HL.out hb); clear BKgp; have BKgp := ngp_; clear ngp_; clear HL; have HL := nL_; clear nL_; have BKgx := As.mk hbox; clear hb hbox hg; have c16_gp_0 : w16.cell? ⟨gp, 0, none⟩ = some ((.string nm)) := (kC BKgp.out 0).trans rfl; have f16_gp_0 := kF BKgp.out 0; have c16_gp_1 : w16.cell? ⟨gp, 1, none⟩ = some ((.string vl)) := (kC BKgp.out 1).trans rfl; have f16_gp_1 := kF BKgp.out 1; have c16_gx_0 : w16.cell? ⟨gx, 0, none⟩ = some (.string (⟨#[]⟩ : ByteArray)) := (kC BKgx.out 0).trans rfl; have f16_gx_0 := kF BKgx.out 0; have c16_gx_1 : w16.cell? ⟨gx, 1, none⟩ = some (.bool false) := (kC BKgx.out 1).trans rfl; have f16_gx_1 := kF BKgx.out 1; have c16_gx_2 : w16.cell? ⟨gx, 2, none⟩ = some (.nilFunc) := (kC BKgx.out 2).trans rfl; have f16_gx_2 := kF BKgx.out 2) | ((with_reducible refine gate_store (t := 68) (p := 13) rfl ?_); refine store_event (t := 68) (p := 13) (v := ?vo17) (w1 := ?wo17) ?hg ?ho ?hn ?hr ?_; (case ho => rfl); (case hg => rfl); (case hn => rfl); (case hr => first | (go_simp; done) | (go_simp; rfl)); intro w17 hw; have ngp_ := As.mk ((by rw [hw]; (repeat refine kR ?_ NEgp_gx.out _); (with_reducible repeat (first | refine kN ?_ _ | refine kD ?_ | refine kA ?_ _)); exact BKgp.out) : w17.heap[gp]? = some (.cells #[(.string nm), (.string vl)] 31 (0, 0))); have ngx_ := As.mk ((by rw [hw]; refine kP (cs := #[(.string q.dflt), (.bool q.must), .nilFunc]) ?_ 2 _ rfl; refine kP (cs := #[(.string q.dflt), .bool false, .nilFunc]) ?_ 1 _ rfl; refine kP (cs := #[.string (⟨#[]⟩ : ByteArray), .bool false, .nilFunc]) ?_ 0 _ rfl; (with_reducible repeat (first | refine kN ?_ _ | refine kD ?_ | refine kA ?_ _)); exact BKgx.out) : w17.heap[gx]? = some (.cells #[(.string q.dflt), (.bool q.must), (.func (.func g) #[] lb)] 68 (0, 0))); have nL_ := As.mk (LI.set (i := 2) (v := (.func (.func g) #[] lb)) (LI.set (i := 1) (v := (.bool q.must)) (LI.set (i := 0) (v := (.string q.dflt)) (HL.out) (BKgx.out) GEgx.out) (kP (cs' := #[(.string q.dflt), .bool false, .nilFunc]) (BKgx.out) 0 ((.string q.dflt)) rfl) GEgx.out) (kP (cs' := #[(.string q.dflt), (.bool q.must), .nilFunc]) (kP (cs' := #[(.string q.dflt), .bool false, .nilFunc]) (BKgx.out) 0 ((.string q.dflt)) rfl) 1 ((.bool q.must)) rfl) GEgx.out); rw [← hw] at nL_; clear BKgp; have BKgp := ngp_; clear ngp_; clear BKgx; have BKgx := ngx_; clear ngx_; clear HL; have HL := nL_; clear nL_; clear hw; have c17_gp_0 : w17.cell? ⟨gp, 0, none⟩ = some ((.string nm)) := (kC BKgp.out 0).trans rfl; have f17_gp_0 := kF BKgp.out 0; have c17_gp_1 : w17.cell? ⟨gp, 1, none⟩ = some ((.string vl)) := (kC BKgp.out 1).trans rfl; have f17_gp_1 := kF BKgp.out 1; have c17_gx_0 : w17.cell? ⟨gx, 0, none⟩ = some ((.string q.dflt)) := (kC BKgx.out 0).trans rfl; have f17_gx_0 := kF BKgx.out 0; have c17_gx_1 : w17.cell? ⟨gx, 1, none⟩ = some ((.bool q.must)) := (kC BKgx.out 1).trans rfl; have f17_gx_1 := kF BKgx.out 1; have c17_gx_2 : w17.cell? ⟨gx, 2, none⟩ = some ((.func (.func g) #[] lb)) := (kC BKgx.out 2).trans rfl; have f17_gx_2 := kF BKgx.out 2))
              refine r17_C (fun W' => LI w W0 W' g1 g2 a0_0 a0_1 (some ad) c0_2 l0_2 bi ni li (wc.heap.size) (i + 1) (toldD ens (l0_2.take i)) ∧ W'.heap[gp]? = some (.cells #[.string nm, .string vl] 31 (0, 0)) ∧ W'.heap[gx]? = some (.cells #[(.string q.dflt), (.bool q.must), (.func (.func g) #[] lb)] 68 (0, 0))) gp gx g1 i nm vl rfl rfl rfl rfl rfl rfl ⟨LI.later HL.out (bD (Below.refl _ _)), BKgp.out, BKgx.out⟩ (fun W h => (kC h.2.1 0).trans rfl) be2 g lb eg (fun W h => (kC h.2.1 1).trans rfl) (fun W h => (kC h.2.2 2).trans rfl) (fun W h => (call_may HU.out hm2.out hc2.out HNS.out.2 h.1.below h.1.kept).mono (fun e w' he => ⟨by rw [he.1, HM.out], LI.later h.1 he.2, kB h.2.1 he.2, kB h.2.2 he.2⟩)) (fun wS hS => ?_)
              have HLs := As.mk hS.1
              have cp0 := (kC hS.2.1 0).trans (rfl : _ = some (Value.string nm))
              have cp1 := (kC hS.2.1 1).trans (rfl : _ = some (Value.string vl))
              clear hS HL BKgp BKgx
              have zs0 : wS.cell? ⟨g2, 0, none⟩ = some (.string (⟨#[]⟩ : ByteArray)) := (kC HLs.out.k2 0).trans rfl
              have ys0 := kF HLs.out.k2 0
              have zs1 : wS.cell? ⟨g2, 1, none⟩ = some (.string (⟨#[]⟩ : ByteArray)) := (kC HLs.out.k2 1).trans rfl
              have ys1 := kF HLs.out.k2 1
              have zs2 : wS.cell? ⟨g2, 2, none⟩ = some (.slice none 0 0) := (kC HLs.out.k2 2).trans rfl
              have ys2 := kF HLs.out.k2 2
              simp only [actE, d17, List.replicate_succ, List.replicate_zero, if_true, Act.put, List.setIfInBounds_toArray, List.set_cons_succ, List.set_cons_zero]
              go_wp2
              refine bodyPost_ret (results_ct rfl _ _ g2 24 #[.string (⟨#[]⟩ : ByteArray), .string (⟨#[]⟩ : ByteArray), .slice none 0 0] (0, 0) _ rfl (by (with_reducible repeat (first | refine kN ?_ _ | refine kD ?_ | refine kA ?_ _)); refine kP (cs := #[.string (⟨#[]⟩ : ByteArray), .string (⟨#[]⟩ : ByteArray), .slice none 0 0]) ?_ 2 _ rfl; refine kP (cs := #[.string (⟨#[]⟩ : ByteArray), .string (⟨#[]⟩ : ByteArray), .slice none 0 0]) ?_ 1 _ rfl; refine kP (cs := #[.string (⟨#[]⟩ : ByteArray), .string (⟨#[]⟩ : ByteArray), .slice none 0 0]) ?_ 0 _ rfl; (with_reducible repeat (first | refine kN ?_ _ | refine kD ?_ | refine kA ?_ _)); exact HLs.out.k2) Tryz.underlying24 rfl (by kernel_rfl)) rfl ?_
              exact .inl ⟨okP_false hlt (step_unknown HP.out (known_may HE.out HF.out HM.out)), rfl, (by repeat (first | exact HLs.out.below | refine bS ?_ HLs.out.e2 | apply bN | apply bD))⟩
            | true =>
              have HM := As.mk hmy
              clear hmy
              go_wp2_with (first | ((with_reducible refine gate_dst (N := 12) rfl ?_); refine box_event ?hg (N := 12) ?hd (cs := #[.string (⟨#[]⟩ : ByteArray), .string (⟨#[]⟩ : ByteArray)]) (t := 31) ?hr ?_; (case hd => rfl); (case hg => rfl); (case hr => first | (go_simp; done) | (go_simp; rfl)); intro gp hg w18 hbox hb; have GEgp := As.mk ((by rw [hg]; exact HL.out.size) : W0.heap.size ≤ gp); have nL_ := As.mk (LI.later HL.out hb); clear HL; have HL := nL_; clear nL_; have BKgp := As.mk hbox; clear hb hbox hg; have c18_gp_0 : w18.cell? ⟨gp, 0, none⟩ = some (.string (⟨#[]⟩ : ByteArray)) := (kC BKgp.out 0).trans rfl; have f18_gp_0 := kF BKgp.out 0; have c18_gp_1 : w18.cell? ⟨gp, 1, none⟩ = some (.string (⟨#[]⟩ : ByteArray)) := (kC BKgp.out 1).trans rfl; have f18_gp_1 := kF BKgp.out 1) | ((with_reducible refine gate_store (t := 31) (p := 12) rfl ?_); refine store_event (t := 31) (p := 12) (v := ?vo19) (w1 := ?wo19) ?hg ?ho ?hn ?hr ?_; (case ho => rfl); (case hg => rfl); (case hn => rfl); (case hr => first | (go_simp; done) | (go_simp; rfl)); intro w19 hw; have ngp_ := As.mk ((by rw [hw]; refine kP (cs := #[(.string nm), .string (⟨#[]⟩ : ByteArray)]) ?_ 1 _ rfl; refine kP (cs := #[.string (⟨#[]⟩ : ByteArray), .string (⟨#[]⟩ : ByteArray)]) ?_ 0 _ rfl; (with_reducible repeat (first | refine kN ?_ _ | refine kD ?_ | refine kA ?_ _)); exact BKgp.out) : w19.heap[gp]? = some (.cells #[(.string nm), (.string vl)] 31 (0, 0))); have nL_ := As.mk (LI.set (i := 1) (v := (.string vl)) (LI.set (i := 0) (v := (.string nm)) (HL.out) (BKgp.out) GEgp.out) (kP (cs' := #[(.string nm), .string (⟨#[]⟩ : ByteArray)]) (BKgp.out) 0 ((.string nm)) rfl) GEgp.out); rw [← hw] at nL_; clear BKgp; have BKgp := ngp_; clear ngp_; clear HL; have HL := nL_; clear nL_; clear hw; have c19_gp_0 : w19.cell? ⟨gp, 0, none⟩ = some ((.string nm)) := (kC BKgp.out 0).trans rfl; have f19_gp_0 := kF BKgp.out 0; have c19_gp_1 : w19.cell? ⟨gp, 1, none⟩ = some ((.string vl)) := (kC BKgp.out 1).trans rfl; have f19_gp_1 := kF BKgp.out 1) | ((with_reducible refine gate_look rfl ?_); refine look_rule_some HL.out.inner HKR.out HTR.out.1 rfl _ _ rfl rfl nm rfl HNS.out.1 q HF.out ?_; intro g lb cells eg hm hc; have hm2 := As.mk hm; have hc2 := As.mk hc; clear hm hc) | ((with_reducible refine gate_dst (N := 13) rfl ?_); refine box_event ?hg (N := 13) ?hd (cs := #[.string (⟨#[]⟩ : ByteArray), .bool false, .nilFunc]) (t := 68) ?hr ?_; (case hd => rfl); (case hg => rfl); (case hr => first | (go_simp; done) | (go_simp; rfl)); intro gx hg w20 hbox hb; have NEgp_gx := As.mk ((by rw [hg]; exact Nat.ne_of_lt (blk_lt (w := _) BKgp.out)) : gp ≠ gx); have GEgx := As.mk ((by rw [hg]; exact HL.out.size) : W0.heap.size ≤ gx); have ngp_ := As.mk (kB (g := gp) (o := .cells #[(.string nm), (.string vl)] 31 (0, 0)) (by (with_reducible repeat (first | refine kN ?_ _ | refine kD ?_ | refine kA ?_ _)); exact BKgp.out) hb); have nL_ := As.mk (LI.later HL.out hb); clear BKgp; have BKgp := ngp_; clear ngp_; clear HL; have HL := nL_; clear nL_; have BKgx := As.mk hbox; clear hb hbox hg; have c20_gp_0 : w20.cell? ⟨gp, 0, none⟩ = some ((.string nm)) := (kC BKgp.out 0).trans rfl; have f20_gp_0 := kF BKgp.out 0; have c20_gp_1 : w20.cell? ⟨gp, 1, none⟩ = some ((.string vl)) := (kC BKgp.out 1).trans rfl; have f20_gp_1 := kF BKgp.out 1; have c20_gx_0 : w20.cell? ⟨gx, 0, none⟩ = some (.string (⟨#[]⟩ : ByteArray)) := (kC BKgx.out 0).trans rfl; have f20_gx_0 := kF BKgx.out 0; have c20_gx_1 : w20.cell? ⟨gx, 1, none⟩ = some (.bool false) := (kC BKgx.out 1).trans rfl; have f20_gx_1 := kF BKgx.out 1; have c20_gx_2 : w20.cell? ⟨gx, 2, none⟩ = some (.nilFunc) := (kC BKgx.out 2).trans rfl; have f20_gx_2 := kF BKgx.out 2) | ((with_reducible refine gate_store (t := 68) (p := 13) rfl ?_); refine store_event (t := 68) (p := 13) (v := ?vo21) (w1 := ?wo21) ?hg ?ho ?hn ?hr ?_; (case ho => rfl); (case hg => rfl); (case hn => rfl); (case hr => first | (go_simp; done) | (go_simp; rfl)); intro w21 hw; have ngp_ := As.mk ((by rw [hw]; (repeat refine kR ?_ NEgp_gx.out _); (with_reducible repeat (first | refine kN ?_ _ | refine kD ?_ | refine kA ?_ _)); exact BKgp.out) : w21.heap[gp]? = some (.cells #[(.string nm), (.string vl)] 31 (0, 0))); have ngx_ := As.mk ((by rw [hw]; refine kP (cs := #[(.string q.dflt), (.bool q.must), .nilFunc]) ?_ 2 _ rfl; refine kP (cs := #[(.string q.dflt), .bool false, .nilFunc]) ?_ 1 _ rfl; refine kP (cs := #[.string (⟨#[]⟩ : ByteArray), .bool false, .nilFunc]) ?_ 0 _ rfl; (with_reducible repeat (first | refine kN ?_ _ | refine kD ?_ | refine kA ?_ _)); exact BKgx.out) : w21.heap[gx]? = some (.cells #[(.string q.dflt), (.bool q.must), (.func (.func g) #[] lb)] 68 (0, 0))); have nL_ := As.mk (LI.set (i := 2) (v := (.func (.func g) #[] lb)) (LI.set (i := 1) (v := (.bool q.must)) (LI.set (i := 0) (v := (.string q.dflt)) (HL.out) (BKgx.out) GEgx.out) (kP (cs' := #[(.string q.dflt), .bool false, .nilFunc]) (BKgx.out) 0 ((.string q.dflt)) rfl) GEgx.out) (kP (cs' := #[(.string q.dflt), (.bool q.must), .nilFunc]) (kP (cs' := #[(.string q.dflt), .bool false, .nilFunc]) (BKgx.out) 0 ((.string q.dflt)) rfl) 1 ((.bool q.must)) rfl) GEgx.out); rw [← hw] at nL_; clear BKgp; have BKgp := ngp_; clear ngp_; clear BKgx; have BKgx := ngx_; clear ngx_; clear HL; have HL := nL_; clear nL_; clear hw; have c21_gp_0 : w21.cell? ⟨gp, 0, none⟩ = some ((.string nm)) := (kC BKgp.out 0).trans rfl; have f21_gp_0 := kF BKgp.out 0; have c21_gp_1 : w21.cell? ⟨gp, 1, none⟩ = some ((.string vl)) := (kC BKgp.out 1).trans rfl; have f21_gp_1 := kF BKgp.out 1; have c21_gx_0 : w21.cell? ⟨gx, 0, none⟩ = some ((.string q.dflt)) := (kC BKgx.out 0).trans rfl; have f21_gx_0 := kF BKgx.out 0; have c21_gx_1 : w21.cell? ⟨gx, 1, none⟩ = some ((.bool q.must)) := (kC BKgx.out 1).trans rfl; have f21_gx_1 := kF BKgx.out 1; have c21_gx_2 : w21.cell? ⟨gx, 2, none⟩ = some ((.func (.func g) #[] lb)) := (kC BKgx.out 2).trans rfl; have f21_gx_2 := kF BKgx.out 2))
              rcases Nat.eq_zero_or_pos i with hi0 | hi0
              · have hi1 : ¬ ((0 : Int) < (i : Int)) := by omega
                have hz := decide_eq_false hi1
                refine r17_D0 (fun W' => LI w W0 W' g1 g2 a0_0 a0_1 (some ad) c0_2 l0_2 bi ni li (wc.heap.size) (i + 1) (toldD ens (l0_2.take i)) ∧ W'.heap[gp]? = some (.cells #[.string nm, .string vl] 31 (0, 0)) ∧ W'.heap[gx]? = some (.cells #[(.string q.dflt), (.bool q.must), (.func (.func g) #[] lb)] 68 (0, 0))) gp gx g1 i nm vl rfl rfl rfl rfl rfl rfl ⟨LI.later HL.out (bD (Below.refl _ _)), BKgp.out, BKgx.out⟩ (fun W h => (kC h.2.1 0).trans rfl) be2 g lb eg (fun W h => (kC h.2.1 1).trans rfl) (fun W h => (kC h.2.2 2).trans rfl) (fun W h => (call_may HU.out hm2.out hc2.out HNS.out.2 h.1.below h.1.kept).mono (fun e w' he => ⟨by rw [he.1, HM.out], LI.later h.1 he.2, kB h.2.1 he.2, kB h.2.2 he.2⟩)) hz (fun wS hS => ?_)
                have HLs := As.mk hS.1
                have cp0 := (kC hS.2.1 0).trans (rfl : _ = some (Value.string nm))
                have cp1 := (kC hS.2.1 1).trans (rfl : _ = some (Value.string vl))
                clear hS HL BKgp BKgx
                have zs0 : wS.cell? ⟨g2, 0, none⟩ = some (.string (⟨#[]⟩ : ByteArray)) := (kC HLs.out.k2 0).trans rfl
                have ys0 := kF HLs.out.k2 0
                have zs1 : wS.cell? ⟨g2, 1, none⟩ = some (.string (⟨#[]⟩ : ByteArray)) := (kC HLs.out.k2 1).trans rfl
                have ys1 := kF HLs.out.k2 1
                have zs2 : wS.cell? ⟨g2, 2, none⟩ = some (.slice none 0 0) := (kC HLs.out.k2 2).trans rfl
                have ys2 := kF HLs.out.k2 2
                simp only [actE, d17, List.replicate_succ, List.replicate_zero, if_true, Act.put, List.setIfInBounds_toArray, List.set_cons_succ, List.set_cons_zero]
                go_wp2_with (first | ((with_reducible refine gate_update rfl ?_); refine wpList_update_held _ rfl _ _ _ 65 rfl 9 64 Tryz.underlying9 Tryz.underlying65 (wc.heap.size) (i + 1) (toldD ens (l0_2.take i)) rfl HLs.out.has (by have := HK.out; unfold maxLen; omega) nm _ rfl rfl (by have := HNS.out.1; unfold maxLen; omega) ?_; intro wU ho hg; have HL2 := As.mk (LI.put HLs.out ho hg); clear ho hg))
                go_roundg (l0_2.length - (i + 1))
                case measure => have := HK.out; omega
                case rel =>
                  refine ⟨i + 1, by go_num, ⟨by omega⟩, ⟨fun j hj => ?_⟩, ⟨by rw [HSN.out, toldD_snoc]; exact HL2.out⟩⟩
                  by_cases ej : j = i
                  · subst ej; exact (by subst hi0; exact step_first HP.out (known_rule HF.out HM.out))
                  · exact HA.out j (by omega)
              · have hi1 : (0 : Int) < (i : Int) := by omega
                have hz := decide_eq_true hi1
                have hw1 : IntKind.i64.wrap ((i : Int) - 1) = (i : Int) - 1 := by rw [IntKind.wrap_i64]; omega
                have hv0 : (0 : Int) ≤ (i : Int) - 1 := by omega
                have hv1 : (i : Int) - 1 < (l0_2.length : Int) := by omega
                obtain ⟨pn, hpn⟩ : ∃ pn, (rd_T31 l0_2 ((i - 1 : Nat) : Int)).f0 = pn := ⟨_, rfl⟩
                have HPV := As.mk hpn
                clear hpn
                cases hle : (Op.bytesLess nm.toList pn.toList || nm.toList == pn.toList) with
                | true =>
                  have HLE := As.mk hle
                  refine r17_Dle (fun W' => LI w W0 W' g1 g2 a0_0 a0_1 (some ad) c0_2 l0_2 bi ni li (wc.heap.size) (i + 1) (toldD ens (l0_2.take i)) ∧ W'.heap[gp]? = some (.cells #[.string nm, .string vl] 31 (0, 0)) ∧ W'.heap[gx]? = some (.cells #[(.string q.dflt), (.bool q.must), (.func (.func g) #[] lb)] 68 (0, 0))) gp gx g1 i nm vl rfl rfl rfl rfl rfl rfl ⟨LI.later HL.out (bD (Below.refl _ _)), BKgp.out, BKgx.out⟩ (fun W h => (kC h.2.1 0).trans rfl) be2 g lb eg (fun W h => (kC h.2.1 1).trans rfl) (fun W h => (kC h.2.2 2).trans rfl) (fun W h => (call_may HU.out hm2.out hc2.out HNS.out.2 h.1.below h.1.kept).mono (fun e w' he => ⟨by rw [he.1, HM.out], LI.later h.1 he.2, kB h.2.1 he.2, kB h.2.2 he.2⟩)) hz l0_2 c0_2 ad pn hw1 hv0 hv1 (fun W h => (kC h.1.k1 2).trans rfl) (fun W h => by rw [prev_cell HR.out h.1.below hi0 hlt, HPV.out]) hle (fun wS hS => ?_)
                  have HLs := As.mk hS.1
                  have cp0 := (kC hS.2.1 0).trans (rfl : _ = some (Value.string nm))
                  have cp1 := (kC hS.2.1 1).trans (rfl : _ = some (Value.string vl))
                  clear hS HL BKgp BKgx
                  have zs0 : wS.cell? ⟨g2, 0, none⟩ = some (.string (⟨#[]⟩ : ByteArray)) := (kC HLs.out.k2 0).trans rfl
                  have ys0 := kF HLs.out.k2 0
                  have zs1 : wS.cell? ⟨g2, 1, none⟩ = some (.string (⟨#[]⟩ : ByteArray)) := (kC HLs.out.k2 1).trans rfl
                  have ys1 := kF HLs.out.k2 1
                  have zs2 : wS.cell? ⟨g2, 2, none⟩ = some (.slice none 0 0) := (kC HLs.out.k2 2).trans rfl
                  have ys2 := kF HLs.out.k2 2
                  simp only [actE, d17, List.replicate_succ, List.replicate_zero, if_true, Act.put, List.setIfInBounds_toArray, List.set_cons_succ, List.set_cons_zero]
                  go_wp2
                  refine bodyPost_ret (results_ct rfl _ _ g2 24 #[.string (⟨#[]⟩ : ByteArray), .string (⟨#[]⟩ : ByteArray), .slice none 0 0] (0, 0) _ rfl (by (with_reducible repeat (first | refine kN ?_ _ | refine kD ?_ | refine kA ?_ _)); refine kP (cs := #[.string (⟨#[]⟩ : ByteArray), .string (⟨#[]⟩ : ByteArray), .slice none 0 0]) ?_ 2 _ rfl; refine kP (cs := #[.string (⟨#[]⟩ : ByteArray), .string (⟨#[]⟩ : ByteArray), .slice none 0 0]) ?_ 1 _ rfl; refine kP (cs := #[.string (⟨#[]⟩ : ByteArray), .string (⟨#[]⟩ : ByteArray), .slice none 0 0]) ?_ 0 _ rfl; (with_reducible repeat (first | refine kN ?_ _ | refine kD ?_ | refine kA ?_ _)); exact HLs.out.k2) Tryz.underlying24 rfl (by kernel_rfl)) rfl ?_
                  exact .inl ⟨okP_false hlt (step_order HP.out hi0 (by rw [HPV.out]; exact HLE.out)), rfl, (by repeat (first | exact HLs.out.below | refine bS ?_ HLs.out.e2 | apply bN | apply bD))⟩
                | false =>
                  have HLE := As.mk hle
                  refine r17_Dok (fun W' => LI w W0 W' g1 g2 a0_0 a0_1 (some ad) c0_2 l0_2 bi ni li (wc.heap.size) (i + 1) (toldD ens (l0_2.take i)) ∧ W'.heap[gp]? = some (.cells #[.string nm, .string vl] 31 (0, 0)) ∧ W'.heap[gx]? = some (.cells #[(.string q.dflt), (.bool q.must), (.func (.func g) #[] lb)] 68 (0, 0))) gp gx g1 i nm vl rfl rfl rfl rfl rfl rfl ⟨LI.later HL.out (bD (Below.refl _ _)), BKgp.out, BKgx.out⟩ (fun W h => (kC h.2.1 0).trans rfl) be2 g lb eg (fun W h => (kC h.2.1 1).trans rfl) (fun W h => (kC h.2.2 2).trans rfl) (fun W h => (call_may HU.out hm2.out hc2.out HNS.out.2 h.1.below h.1.kept).mono (fun e w' he => ⟨by rw [he.1, HM.out], LI.later h.1 he.2, kB h.2.1 he.2, kB h.2.2 he.2⟩)) hz l0_2 c0_2 ad pn hw1 hv0 hv1 (fun W h => (kC h.1.k1 2).trans rfl) (fun W h => by rw [prev_cell HR.out h.1.below hi0 hlt, HPV.out]) hle (fun wS hS => ?_)
                  have HLs := As.mk hS.1
                  have cp0 := (kC hS.2.1 0).trans (rfl : _ = some (Value.string nm))
                  have cp1 := (kC hS.2.1 1).trans (rfl : _ = some (Value.string vl))
                  clear hS HL BKgp BKgx
                  have zs0 : wS.cell? ⟨g2, 0, none⟩ = some (.string (⟨#[]⟩ : ByteArray)) := (kC HLs.out.k2 0).trans rfl
                  have ys0 := kF HLs.out.k2 0
                  have zs1 : wS.cell? ⟨g2, 1, none⟩ = some (.string (⟨#[]⟩ : ByteArray)) := (kC HLs.out.k2 1).trans rfl
                  have ys1 := kF HLs.out.k2 1
                  have zs2 : wS.cell? ⟨g2, 2, none⟩ = some (.slice none 0 0) := (kC HLs.out.k2 2).trans rfl
                  have ys2 := kF HLs.out.k2 2
                  simp only [actE, d17, List.replicate_succ, List.replicate_zero, if_true, Act.put, List.setIfInBounds_toArray, List.set_cons_succ, List.set_cons_zero]
                  go_wp2_with (first | ((with_reducible refine gate_update rfl ?_); refine wpList_update_held _ rfl _ _ _ 65 rfl 9 64 Tryz.underlying9 Tryz.underlying65 (wc.heap.size) (i + 1) (toldD ens (l0_2.take i)) rfl HLs.out.has (by have := HK.out; unfold maxLen; omega) nm _ rfl rfl (by have := HNS.out.1; unfold maxLen; omega) ?_; intro wU ho hg; have HL2 := As.mk (LI.put HLs.out ho hg); clear ho hg))
                  go_roundg (l0_2.length - (i + 1))
                  case measure => have := HK.out; omega
                  case rel =>
                    refine ⟨i + 1, by go_num, ⟨by omega⟩, ⟨fun j hj => ?_⟩, ⟨by rw [HSN.out, toldD_snoc]; exact HL2.out⟩⟩
                    by_cases ej : j = i
                    · subst ej; exact step_next HP.out (known_rule HF.out HM.out) (by rw [HPV.out]; exact HLE.out)
                    · exact HA.out j (by omega)
      · have hil : i = l0_2.length := by have := HK.out; omega
        have HOK := As.mk (okP_true (rs := rs) (l := l0_2) (fun j hj => HA.out j (by omega)))
        have HL3 := As.mk ((by have h := HL.out; rw [hil, List.take_length] at h; exact h) : LI w W0 wr g1 g2 a0_0 a0_1 A0_2 c0_2 l0_2 bi ni li (wc.heap.size) (l0_2.length + 1) (toldD ens l0_2))
        clear HL
        have HL := HL3
        clear HL3 HA hil
        have HS8 := As.mk (own_size HL.out.inner)
        go_wp2_with (first | ((at_range); refine wpList_range_own _ rfl _ 61 rfl 9 68 (string_keyed Tryz.underlying9) Tryz.underlying61 heldR bi ni (putL li) rfl HL.out.inner ?_; intro wR hrg hgr hsr; have HRG := As.mk hrg; have GER := As.mk HL.out.size; have HL3 := As.mk (LI.later HL.out (below_of_grown hgr)); clear HL hrg hgr hsr; have HL := HL3; clear HL3))
        go_frame
        go_loopg [3] (Maps.size (putL li)) (fun kq v3 wx => ∃ (left : Lit → Bool) (nD : Nat) (D : DataW Value), As (wx.ranges Tryz.prog 9 heldR bi wr.heap.size ni (putL li) left kq) ∧ As (LI w W0 wx g1 g2 a0_0 a0_1 A0_2 c0_2 l0_2 bi ni li (wc.heap.size) nD D) ∧ As (Inv2 ens l0_2 rs left D) ∧ As (nD + kq ≤ l0_2.length + 1 + Maps.size (putL li)))
        case atStart => exact ⟨_, _, _, HRG, HL, ⟨Inv2.start HKR.out HTR.out.1⟩, ⟨Nat.le_refl _⟩⟩
        case round =>
          clear HL HRG
          obtain ⟨left, nD, D, HRG, HL, HI, HNB⟩ := hrel
          go_wp2_with (first | ((at_next); refine next_rules HRG.out HKR.out HTR.out.1 rfl _ rfl rfl ?_ ?_))
          · intro hc0 hl0
            have HLK := As.mk (lacks_false HI.out hl0 HTR.out.1)
            have HFH := As.mk ((fun s => by rw [HI.out.has_, tAt_end hl0]) : ∀ s, Maps.has D (kS s) = (fullAt ens l0_2 rs s).isSome)
            have HFA := As.mk ((fun s z => by rw [HI.out.at_, tAt_end hl0]; cases fullAt ens l0_2 rs s <;> rfl) : ∀ s z, D.atKey (kS s) z = (match fullAt ens l0_2 rs s with | some v => toldV v | none => z))
            have HND := As.mk ((by have h1 := HNB.out; have h2 := HS8.out; have h3 := HL.out.ni8; omega) : nD ≤ 8796093022208)
            have HL8 := As.mk ((by unfold namesB namesS; have := HTR.out.2.2.1; simp; omega) : (namesB rs).length ≤ 9)
            clear hl0 hc0 HRG HI
            have cg0 : wr.cell? ⟨g1, 0, none⟩ = some (.string a0_0) := (kC HL.out.k1 0).trans rfl
            have cg1 : wr.cell? ⟨g1, 1, none⟩ = some (.string a0_1) := (kC HL.out.k1 1).trans rfl
            go_wp2_with (first | ((with_reducible refine gate_dst (N := 19) rfl ?_); refine box_event ?hg (N := 19) ?hd (cs := #[.string (⟨#[]⟩ : ByteArray), .string (⟨#[]⟩ : ByteArray), .slice none 0 0]) (t := 24) ?hr ?_; (case hd => rfl); (case hg => rfl); (case hr => first | (go_simp; done) | (go_simp; rfl)); intro g3 hg w36 hbox hb; have GEg3 := As.mk ((by rw [hg]; exact HL.out.size) : W0.heap.size ≤ g3); have nL_ := As.mk (LI.later HL.out hb); clear HL; have HL := nL_; clear nL_; have BKg3 := As.mk hbox; clear hb hbox hg; have c36_g3_0 : w36.cell? ⟨g3, 0, none⟩ = some (.string (⟨#[]⟩ : ByteArray)) := (kC BKg3.out 0).trans rfl; have f36_g3_0 := kF BKg3.out 0; have c36_g3_1 : w36.cell? ⟨g3, 1, none⟩ = some (.string (⟨#[]⟩ : ByteArray)) := (kC BKg3.out 1).trans rfl; have f36_g3_1 := kF BKg3.out 1; have c36_g3_2 : w36.cell? ⟨g3, 2, none⟩ = some (.slice none 0 0) := (kC BKg3.out 2).trans rfl; have f36_g3_2 := kF BKg3.out 2) | ((with_reducible refine gate_store (t := 24) (p := 19) rfl ?_); refine store_event (t := 24) (p := 19) (v := ?vo37) (w1 := ?wo37) ?hg ?ho ?hn ?hr ?_; (case ho => rfl); (case hg => rfl); (case hn => rfl); (case hr => first | (go_simp; done) | (go_simp; rfl)); intro w37 hw; have ng3_ := As.mk ((by rw [hw]; refine kP (cs := #[(.string a0_0), (.string a0_1), .slice none 0 0]) ?_ 2 _ rfl; refine kP (cs := #[(.string a0_0), .string (⟨#[]⟩ : ByteArray), .slice none 0 0]) ?_ 1 _ rfl; refine kP (cs := #[.string (⟨#[]⟩ : ByteArray), .string (⟨#[]⟩ : ByteArray), .slice none 0 0]) ?_ 0 _ rfl; (with_reducible repeat (first | refine kN ?_ _ | refine kD ?_ | refine kA ?_ _)); exact BKg3.out) : w37.heap[g3]? = some (.cells #[(.string a0_0), (.string a0_1), (.slice none 0 0)] 24 (0, 0))); have nL_ := As.mk (LI.set (i := 2) (v := (.slice none 0 0)) (LI.set (i := 1) (v := (.string a0_1)) (LI.set (i := 0) (v := (.string a0_0)) (HL.out) (BKg3.out) GEg3.out) (kP (cs' := #[(.string a0_0), .string (⟨#[]⟩ : ByteArray), .slice none 0 0]) (BKg3.out) 0 ((.string a0_0)) rfl) GEg3.out) (kP (cs' := #[(.string a0_0), (.string a0_1), .slice none 0 0]) (kP (cs' := #[(.string a0_0), .string (⟨#[]⟩ : ByteArray), .slice none 0 0]) (BKg3.out) 0 ((.string a0_0)) rfl) 1 ((.string a0_1)) rfl) GEg3.out); rw [← hw] at nL_; clear BKg3; have BKg3 := ng3_; clear ng3_; clear HL; have HL := nL_; clear nL_; clear hw; have c37_g3_0 : w37.cell? ⟨g3, 0, none⟩ = some ((.string a0_0)) := (kC BKg3.out 0).trans rfl; have f37_g3_0 := kF BKg3.out 0; have c37_g3_1 : w37.cell? ⟨g3, 1, none⟩ = some ((.string a0_1)) := (kC BKg3.out 1).trans rfl; have f37_g3_1 := kF BKg3.out 1; have c37_g3_2 : w37.cell? ⟨g3, 2, none⟩ = some ((.slice none 0 0)) := (kC BKg3.out 2).trans rfl; have f37_g3_2 := kF BKg3.out 2) | (go_at_call 31; refine (keys_calls _ _).mono ?_; rintro e wK ⟨rfl, rfl⟩) | (go_at_call 30; refine (sorted_calls HL.out.has HND.out HFH.out HTR.out.1 HTR.out.2.1 HOK.out).mono ?_; rintro e wN ⟨A, cN, rfl, hRN, hbN⟩; have HL2 := As.mk (LI.later (LI.later HL.out (bA _ _)) hbN); have BK2 := As.mk (kB (kA BKg3.out _) hbN); have HNM := As.mk (Kd.R_lower (names_far hRN (by have h1 := blk_lt BKg3.out; simp; omega)) (by have h1 := HL.out.below.size; simp; omega) : Kd.R Kd.string 9 wN w.heap.size (fun k => k ≠ g3) (.slice A (namesB rs).length cN) (namesB rs)); have GE3 := As.mk (Nat.le_trans HL.out.e0 GEg3.out : w.heap.size ≤ g3); have GEW := As.mk (GEg3.out : W0.heap.size ≤ g3); clear HL BKg3 hRN hbN; have HL := HL2; have BKg3 := BK2; clear HL2 BK2))
            go_loopg [145] (namesB rs).length (fun kq v145 wy => ∃ (i3 : Nat) (v : Value), v145 = .int .i64 i3 ∧ As (i3 + kq = (namesB rs).length) ∧ As (Kd.R k31 31 wy g3 (fun k => k ≠ g3 ∧ some k ≠ (Value.slice A (namesB rs).length cN).ownBlock) v ((outS ens l0_2 rs).take i3)) ∧ As (Below g3 wN wy) ∧ As (Kd.R Kd.string 9 wy w.heap.size (fun k => k ≠ g3) (.slice A (namesB rs).length cN) (namesB rs)) ∧ As (wy.heap[g3]? = some (.cells #[.string a0_0, .string a0_1, v] 24 (0, 0))) ∧ As (LI w W0 wy g1 g2 a0_0 a0_1 A0_2 c0_2 l0_2 bi ni li (wc.heap.size) nD D))
            case atStart => exact ⟨0, .slice none 0 0, rfl, ⟨by omega⟩, ⟨Kd.R_nil _ _ _ _ _⟩, ⟨Below.refl _ _⟩, HNM, BKg3, HL⟩
            case round =>
              clear HL BKg3 HNM
              obtain ⟨i3, v, rfl, HK3, HV, HBG, HNM, BKg3, HL⟩ := hrel
              by_cases hl3 : i3 < (namesB rs).length
              · have hl3' : (i3 : Int) < ((namesB rs).length : Int) := by omega
                have hl9 : (namesB rs).length ≤ 9 := HL8.out
                obtain ⟨_, _, hCN⟩ := Kd.R_reads' HNM.out
                obtain ⟨ad3, ead3, hx3⟩ := Kd.at_string hCN (i3 : Int) (by omega) hl3'
                cases ead3
                simp only [Int.toNat_natCast] at hx3
                have hfu := name_full (ens := ens) (P := l0_2) (name_at hl3)
                have hns := name_size HTR.out.2.2.2 (name_at hl3)
                have HTK := As.mk (outS_take (ens := ens) (P := l0_2) hl3)
                obtain ⟨n3, hn3⟩ : ∃ n3, rdOf ByteArray.empty (namesB rs) (i3 : Int) = n3 := ⟨_, rfl⟩
                have htk := HTK.out
                rw [hn3] at hx3 hfu hns htk
                obtain ⟨t3, ht3⟩ : ∃ t3, (fullAt ens l0_2 rs n3).getD ⟨#[]⟩ = t3 := ⟨_, rfl⟩
                rw [ht3] at hfu htk
                have HT3 := As.mk ((fun z => by rw [HFA.out, hfu]) : ∀ z, D.atKey (kS n3) z = toldV t3)
                have HTS := As.mk htk
                have HNS3 := As.mk hns
                clear hfu hns htk hn3 ht3 HTK hCN
                have c30 : wr.cell? ⟨g3, 2, none⟩ = some v := (kC BKg3.out 2).trans rfl
                have f30 := kF BKg3.out 2
                go_wp2_with (first | ((with_reducible refine gate_dst (N := 154) rfl ?_); refine look_one HL.out.has rfl _ _ rfl rfl n3 rfl HNS3.out HT3.out ?_) | ((with_reducible refine gate_dst (N := 158) rfl ?_); refine Kd.R_append k31 (w0 := wN) g3 (by rfl) (.tmp 150) (.tmp 157) 22 31 (.agg #[(.string ⟨#[]⟩), (.string ⟨#[]⟩)]) 32 rfl Tryz.underlying22 hinfoP rfl (by decide) (by omega) v _ (⟨n3, t3⟩ : S31) [.string n3, .string t3] _ (fun _ => False) rfl rfl (k31_mkM _ _ _ _) (fun _ hk => hk.elim) ?_ HV.out HBG.out (Nat.le_of_lt (blk_lt BKg3.out)) ?_ ?_; (focus (intro k hk; exact ⟨(by have := blk_lt BKg3.out; omega), (fun e => by have := Kd.R_lt HNM.out k e.symm; omega)⟩)); (focus (have h1 := HL8.out; have h2 := HK3.out; rw [List.length_take]; omega)); intro v1 w1 hv1 hb1 hg1 hat1; obtain ⟨A4, n4, c4, hv4⟩ : ∃ A n c, v1 = Value.slice A n c := (Kd.R_slice hv1).elim (fun A h => h.elim (fun c e => ⟨A, _, c, e⟩)); subst hv4; have HV2 := As.mk hv1; have HBG2 := As.mk hb1; have HNM2 := As.mk (Kd.R_grown2 HNM.out rfl hg1 (fun k e => fun e2 => (HV.out.1 k e).2 e2)); have BK2 := As.mk (blk_grown BKg3.out hg1 (fun e => (HV.out.1 g3 e.symm).1 rfl)); have HLA := As.mk (LI.row HL.out HV.out (GEW.out) hg1); have c31 : w1.cell? ⟨g3, 2, none⟩ = some v := (kC BK2.out 2).trans rfl; have f31 := kF BK2.out 2; clear hv1 hb1 hg1 hat1))
                go_roundg ((namesB rs).length - (i3 + 1))
                case measure => have := HK3.out; omega
                case rel => exact ⟨i3 + 1, _, by go_num, ⟨by omega⟩, ⟨by rw [HTS.out]; exact Kd.R_far (p := ⟨g3, 2, none⟩) HV2.out (fun k hk => hk.1) _⟩, ⟨HBG2.out.setCell (Nat.le_refl _) _⟩, ⟨Kd.R_far (p := ⟨g3, 2, none⟩) HNM2.out (fun k hk => hk) _⟩, ⟨kP BK2.out 2 _ rfl⟩, ⟨LI.set HLA.out BK2.out GEW.out⟩⟩
              · have hge3 : ¬ (i3 : Int) < ((namesB rs).length : Int) := by omega
                obtain ⟨A5, n5, c5, hv5⟩ : ∃ A n c, v = Value.slice A n c := (Kd.R_slice HV.out).elim (fun A h => h.elim (fun c e => ⟨A, _, c, e⟩))
                subst hv5
                have cz0 : wr.cell? ⟨g3, 0, none⟩ = some (.string a0_0) := (kC BKg3.out 0).trans rfl
                have cz1 : wr.cell? ⟨g3, 1, none⟩ = some (.string a0_1) := (kC BKg3.out 1).trans rfl
                have cz2 : wr.cell? ⟨g3, 2, none⟩ = some (.slice A5 n5 c5) := (kC BKg3.out 2).trans rfl
                have cy0 : wr.cell? ⟨g2, 0, none⟩ = some (.string (⟨#[]⟩ : ByteArray)) := (kC HL.out.k2 0).trans rfl
                have fy0 := kF HL.out.k2 0
                have cy1 : wr.cell? ⟨g2, 1, none⟩ = some (.string (⟨#[]⟩ : ByteArray)) := (kC HL.out.k2 1).trans rfl
                have fy1 := kF HL.out.k2 1
                have cy2 : wr.cell? ⟨g2, 2, none⟩ = some (.slice none 0 0) := (kC HL.out.k2 2).trans rfl
                have fy2 := kF HL.out.k2 2
                have HIL := As.mk ((by rw [List.take_of_length_le (by rw [outS_length]; omega)]) : (outS ens l0_2 rs).take i3 = outS ens l0_2 rs)
                have HV5 := As.mk ((by have h := HV.out; rw [HIL.out] at h; exact h) : Kd.R k31 31 wr g3 (fun k => k ≠ g3 ∧ some k ≠ (Value.slice A (namesB rs).length cN).ownBlock) (.slice A5 n5 c5) (outS ens l0_2 rs))
                go_wp2
                refine bodyPost_ret (results_ct rfl _ _ g2 24 #[.string a0_0, .string a0_1, (.slice A5 n5 c5)] (0, 0) _ rfl (by refine kP (cs := #[(.string a0_0), (.string a0_1), .slice none 0 0]) ?_ 2 _ rfl; refine kP (cs := #[(.string a0_0), .string (⟨#[]⟩ : ByteArray), .slice none 0 0]) ?_ 1 _ rfl; refine kP (cs := #[.string (⟨#[]⟩ : ByteArray), .string (⟨#[]⟩ : ByteArray), .slice none 0 0]) ?_ 0 _ rfl; exact HL.out.k2) Tryz.underlying24 rfl (by kernel_rfl)) rfl ?_
                exact .inr ⟨HOK.out, .inr ⟨HLK.out, _, rfl, final_R HV5.out (by have := HL.out.l2; have := GEW.out; omega) GE3.out, (by repeat (first | exact HL.out.below | refine bS ?_ HL.out.e2))⟩⟩
          · intro x q g lb w2 cnt2 hlx hfq hxs hrg2 hlt2 hg2 hen
            have HL2 := As.mk (LI.turn HL.out hg2 GER.out HRG.out.ne (rng_own HRG.out HL.out.has))
            have HRG2 := As.mk hrg2
            have HLX := As.mk hlx
            have HFQ := As.mk hfq
            have HLT := As.mk hlt2
            clear hrg2 hg2 HL HRG hlx hfq hlt2
            have HL := HL2
            have HRG := HRG2
            clear HL2 HRG2
            cases hta : tAt ens l0_2 rs left x with
            | some t =>
              have HTA := As.mk hta
              clear hta
              go_wp2_with (first | ((with_reducible refine gate_dst (N := 16) rfl ?_); refine box_event ?hg (N := 16) ?hd (cs := #[.string (⟨#[]⟩ : ByteArray), .bool false, .nilFunc]) (t := 68) ?hr ?_; (case hd => rfl); (case hg => rfl); (case hr => first | (go_simp; done) | (go_simp; rfl)); intro gx hg w23 hbox hb; have GEgx := As.mk ((by rw [hg]; exact HL.out.size) : W0.heap.size ≤ gx); have nG_ := As.mk (rng_below HRG.out hb); have nL_ := As.mk (LI.later HL.out hb); clear HL; have HL := nL_; clear nL_; clear HRG; have HRG := nG_; clear nG_; have BKgx := As.mk hbox; clear hb hbox hg; have c23_gx_0 : w23.cell? ⟨gx, 0, none⟩ = some (.string (⟨#[]⟩ : ByteArray)) := (kC BKgx.out 0).trans rfl; have f23_gx_0 := kF BKgx.out 0; have c23_gx_1 : w23.cell? ⟨gx, 1, none⟩ = some (.bool false) := (kC BKgx.out 1).trans rfl; have f23_gx_1 := kF BKgx.out 1; have c23_gx_2 : w23.cell? ⟨gx, 2, none⟩ = some (.nilFunc) := (kC BKgx.out 2).trans rfl; have f23_gx_2 := kF BKgx.out 2) | ((with_reducible refine gate_store (t := 68) (p := 16) rfl ?_); refine store_event (t := 68) (p := 16) (v := ?vo24) (w1 := ?wo24) ?hg ?ho ?hn ?hr ?_; (case ho => rfl); (case hg => rfl); (case hn => rfl); (case hr => first | (go_simp; done) | (go_simp; rfl)); intro w24 hw; have ngx_ := As.mk ((by rw [hw]; refine kP (cs := #[(.string q.dflt), (.bool q.must), .nilFunc]) ?_ 2 _ rfl; refine kP (cs := #[(.string q.dflt), .bool false, .nilFunc]) ?_ 1 _ rfl; refine kP (cs := #[.string (⟨#[]⟩ : ByteArray), .bool false, .nilFunc]) ?_ 0 _ rfl; (with_reducible repeat (first | refine kN ?_ _ | refine kD ?_ | refine kA ?_ _)); exact BKgx.out) : w24.heap[gx]? = some (.cells #[(.string q.dflt), (.bool q.must), (.func (.func g) #[] lb)] 68 (0, 0))); have nG_ := As.mk (rng_set (i := 2) (v := (.func (.func g) #[] lb)) (rng_set (i := 1) (v := (.bool q.must)) (rng_set (i := 0) (v := (.string q.dflt)) (HRG.out) (BKgx.out)) (kP (cs' := #[(.string q.dflt), .bool false, .nilFunc]) (BKgx.out) 0 ((.string q.dflt)) rfl)) (kP (cs' := #[(.string q.dflt), (.bool q.must), .nilFunc]) (kP (cs' := #[(.string q.dflt), .bool false, .nilFunc]) (BKgx.out) 0 ((.string q.dflt)) rfl) 1 ((.bool q.must)) rfl)); rw [← hw] at nG_; have nL_ := As.mk (LI.set (i := 2) (v := (.func (.func g) #[] lb)) (LI.set (i := 1) (v := (.bool q.must)) (LI.set (i := 0) (v := (.string q.dflt)) (HL.out) (BKgx.out) GEgx.out) (kP (cs' := #[(.string q.dflt), .bool false, .nilFunc]) (BKgx.out) 0 ((.string q.dflt)) rfl) GEgx.out) (kP (cs' := #[(.string q.dflt), (.bool q.must), .nilFunc]) (kP (cs' := #[(.string q.dflt), .bool false, .nilFunc]) (BKgx.out) 0 ((.string q.dflt)) rfl) 1 ((.bool q.must)) rfl) GEgx.out); rw [← hw] at nL_; clear BKgx; have BKgx := ngx_; clear ngx_; clear HL; have HL := nL_; clear nL_; clear HRG; have HRG := nG_; clear nG_; clear hw; have c24_gx_0 : w24.cell? ⟨gx, 0, none⟩ = some ((.string q.dflt)) := (kC BKgx.out 0).trans rfl; have f24_gx_0 := kF BKgx.out 0; have c24_gx_1 : w24.cell? ⟨gx, 1, none⟩ = some ((.bool q.must)) := (kC BKgx.out 1).trans rfl; have f24_gx_1 := kF BKgx.out 1; have c24_gx_2 : w24.cell? ⟨gx, 2, none⟩ = some ((.func (.func g) #[] lb)) := (kC BKgx.out 2).trans rfl; have f24_gx_2 := kF BKgx.out 2) | ((with_reducible refine gate_look rfl ?_); refine look_told_some HI.out HL.out.has rfl _ _ rfl rfl x rfl hxs HTA.out ?_) | ((with_reducible refine gate_dst (N := 17) rfl ?_); refine box_event ?hg (N := 17) ?hd (cs := #[.string (⟨#[]⟩ : ByteArray)]) (t := 64) ?hr ?_; (case hd => rfl); (case hg => rfl); (case hr => first | (go_simp; done) | (go_simp; rfl)); intro gt hg w25 hbox hb; have NEgx_gt := As.mk ((by rw [hg]; exact Nat.ne_of_lt (blk_lt (w := _) BKgx.out)) : gx ≠ gt); have GEgt := As.mk ((by rw [hg]; exact HL.out.size) : W0.heap.size ≤ gt); have nG_ := As.mk (rng_below HRG.out hb); have ngx_ := As.mk (kB (g := gx) (o := .cells #[(.string q.dflt), (.bool q.must), (.func (.func g) #[] lb)] 68 (0, 0)) (by (with_reducible repeat (first | refine kN ?_ _ | refine kD ?_ | refine kA ?_ _)); exact BKgx.out) hb); have nL_ := As.mk (LI.later HL.out hb); clear BKgx; have BKgx := ngx_; clear ngx_; clear HL; have HL := nL_; clear nL_; clear HRG; have HRG := nG_; clear nG_; have BKgt := As.mk hbox; clear hb hbox hg; have c25_gx_0 : w25.cell? ⟨gx, 0, none⟩ = some ((.string q.dflt)) := (kC BKgx.out 0).trans rfl; have f25_gx_0 := kF BKgx.out 0; have c25_gx_1 : w25.cell? ⟨gx, 1, none⟩ = some ((.bool q.must)) := (kC BKgx.out 1).trans rfl; have f25_gx_1 := kF BKgx.out 1; have c25_gx_2 : w25.cell? ⟨gx, 2, none⟩ = some ((.func (.func g) #[] lb)) := (kC BKgx.out 2).trans rfl; have f25_gx_2 := kF BKgx.out 2; have c25_gt_0 : w25.cell? ⟨gt, 0, none⟩ = some (.string (⟨#[]⟩ : ByteArray)) := (kC BKgt.out 0).trans rfl; have f25_gt_0 := kF BKgt.out 0) | ((with_reducible refine gate_store (t := 64) (p := 17) rfl ?_); refine store_event (t := 64) (p := 17) (v := ?vo26) (w1 := ?wo26) ?hg ?ho ?hn ?hr ?_; (case ho => rfl); (case hg => rfl); (case hn => rfl); (case hr => first | (go_simp; done) | (go_simp; rfl)); intro w26 hw; have ngx_ := As.mk ((by rw [hw]; (repeat refine kR ?_ NEgx_gt.out _); (with_reducible repeat (first | refine kN ?_ _ | refine kD ?_ | refine kA ?_ _)); exact BKgx.out) : w26.heap[gx]? = some (.cells #[(.string q.dflt), (.bool q.must), (.func (.func g) #[] lb)] 68 (0, 0))); have ngt_ := As.mk ((by rw [hw]; refine kP (cs := #[.string (⟨#[]⟩ : ByteArray)]) ?_ 0 _ rfl; (with_reducible repeat (first | refine kN ?_ _ | refine kD ?_ | refine kA ?_ _)); exact BKgt.out) : w26.heap[gt]? = some (.cells #[(.string t)] 64 (0, 0))); have nG_ := As.mk (rng_set (i := 0) (v := (.string t)) (HRG.out) (BKgt.out)); rw [← hw] at nG_; have nL_ := As.mk (LI.set (i := 0) (v := (.string t)) (HL.out) (BKgt.out) GEgt.out); rw [← hw] at nL_; clear BKgx; have BKgx := ngx_; clear ngx_; clear BKgt; have BKgt := ngt_; clear ngt_; clear HL; have HL := nL_; clear nL_; clear HRG; have HRG := nG_; clear nG_; clear hw; have c26_gx_0 : w26.cell? ⟨gx, 0, none⟩ = some ((.string q.dflt)) := (kC BKgx.out 0).trans rfl; have f26_gx_0 := kF BKgx.out 0; have c26_gx_1 : w26.cell? ⟨gx, 1, none⟩ = some ((.bool q.must)) := (kC BKgx.out 1).trans rfl; have f26_gx_1 := kF BKgx.out 1; have c26_gx_2 : w26.cell? ⟨gx, 2, none⟩ = some ((.func (.func g) #[] lb)) := (kC BKgx.out 2).trans rfl; have f26_gx_2 := kF BKgx.out 2; have c26_gt_0 : w26.cell? ⟨gt, 0, none⟩ = some ((.string t)) := (kC BKgt.out 0).trans rfl; have f26_gt_0 := kF BKgt.out 0))
              go_roundg cnt2
              case measure => exact HLT.out
              case rel => exact ⟨_, _, _, HRG, HL, ⟨Inv2.skip HI.out HLX.out (by rw [HTA.out]; rfl)⟩, ⟨by have h1 := HNB.out; have h2 := HLT.out; omega⟩⟩
            | none =>
              have HTA := As.mk hta
              clear hta
              cases hmu : q.must with
              | true =>
                have HMU := As.mk hmu
                rw [hmu] at hen
                clear hmu
                go_wp2_with (first | ((with_reducible refine gate_dst (N := 16) rfl ?_); refine box_event ?hg (N := 16) ?hd (cs := #[.string (⟨#[]⟩ : ByteArray), .bool false, .nilFunc]) (t := 68) ?hr ?_; (case hd => rfl); (case hg => rfl); (case hr => first | (go_simp; done) | (go_simp; rfl)); intro gx hg w27 hbox hb; have GEgx := As.mk ((by rw [hg]; exact HL.out.size) : W0.heap.size ≤ gx); have nG_ := As.mk (rng_below HRG.out hb); have nL_ := As.mk (LI.later HL.out hb); clear HL; have HL := nL_; clear nL_; clear HRG; have HRG := nG_; clear nG_; have BKgx := As.mk hbox; clear hb hbox hg; have c27_gx_0 : w27.cell? ⟨gx, 0, none⟩ = some (.string (⟨#[]⟩ : ByteArray)) := (kC BKgx.out 0).trans rfl; have f27_gx_0 := kF BKgx.out 0; have c27_gx_1 : w27.cell? ⟨gx, 1, none⟩ = some (.bool false) := (kC BKgx.out 1).trans rfl; have f27_gx_1 := kF BKgx.out 1; have c27_gx_2 : w27.cell? ⟨gx, 2, none⟩ = some (.nilFunc) := (kC BKgx.out 2).trans rfl; have f27_gx_2 := kF BKgx.out 2) | ((with_reducible refine gate_store (t := 68) (p := 16) rfl ?_); refine store_event (t := 68) (p := 16) (v := ?vo28) (w1 := ?wo28) ?hg ?ho ?hn ?hr ?_; (case ho => rfl); (case hg => rfl); (case hn => rfl); (case hr => first | (go_simp; done) | (go_simp; rfl)); intro w28 hw; have ngx_ := As.mk ((by rw [hw]; refine kP (cs := #[(.string q.dflt), (.bool true), .nilFunc]) ?_ 2 _ rfl; refine kP (cs := #[(.string q.dflt), .bool false, .nilFunc]) ?_ 1 _ rfl; refine kP (cs := #[.string (⟨#[]⟩ : ByteArray), .bool false, .nilFunc]) ?_ 0 _ rfl; (with_reducible repeat (first | refine kN ?_ _ | refine kD ?_ | refine kA ?_ _)); exact BKgx.out) : w28.heap[gx]? = some (.cells #[(.string q.dflt), (.bool true), (.func (.func g) #[] lb)] 68 (0, 0))); have nG_ := As.mk (rng_set (i := 2) (v := (.func (.func g) #[] lb)) (rng_set (i := 1) (v := (.bool true)) (rng_set (i := 0) (v := (.string q.dflt)) (HRG.out) (BKgx.out)) (kP (cs' := #[(.string q.dflt), .bool false, .nilFunc]) (BKgx.out) 0 ((.string q.dflt)) rfl)) (kP (cs' := #[(.string q.dflt), (.bool true), .nilFunc]) (kP (cs' := #[(.string q.dflt), .bool false, .nilFunc]) (BKgx.out) 0 ((.string q.dflt)) rfl) 1 ((.bool true)) rfl)); rw [← hw] at nG_; have nL_ := As.mk (LI.set (i := 2) (v := (.func (.func g) #[] lb)) (LI.set (i := 1) (v := (.bool true)) (LI.set (i := 0) (v := (.string q.dflt)) (HL.out) (BKgx.out) GEgx.out) (kP (cs' := #[(.string q.dflt), .bool false, .nilFunc]) (BKgx.out) 0 ((.string q.dflt)) rfl) GEgx.out) (kP (cs' := #[(.string q.dflt), (.bool true), .nilFunc]) (kP (cs' := #[(.string q.dflt), .bool false, .nilFunc]) (BKgx.out) 0 ((.string q.dflt)) rfl) 1 ((.bool true)) rfl) GEgx.out); rw [← hw] at nL_; clear BKgx; have BKgx := ngx_; clear ngx_; clear HL; have HL := nL_; clear nL_; clear HRG; have HRG := nG_; clear nG_; clear hw; have c28_gx_0 : w28.cell? ⟨gx, 0, none⟩ = some ((.string q.dflt)) := (kC BKgx.out 0).trans rfl; have f28_gx_0 := kF BKgx.out 0; have c28_gx_1 : w28.cell? ⟨gx, 1, none⟩ = some ((.bool true)) := (kC BKgx.out 1).trans rfl; have f28_gx_1 := kF BKgx.out 1; have c28_gx_2 : w28.cell? ⟨gx, 2, none⟩ = some ((.func (.func g) #[] lb)) := (kC BKgx.out 2).trans rfl; have f28_gx_2 := kF BKgx.out 2) | ((with_reducible refine gate_look rfl ?_); refine look_told_none HI.out HL.out.has rfl _ _ rfl rfl x rfl hxs HTA.out ?_) | ((with_reducible refine gate_dst (N := 17) rfl ?_); refine box_event ?hg (N := 17) ?hd (cs := #[.string (⟨#[]⟩ : ByteArray)]) (t := 64) ?hr ?_; (case hd => rfl); (case hg => rfl); (case hr => first | (go_simp; done) | (go_simp; rfl)); intro gt hg w29 hbox hb; have NEgx_gt := As.mk ((by rw [hg]; exact Nat.ne_of_lt (blk_lt (w := _) BKgx.out)) : gx ≠ gt); have GEgt := As.mk ((by rw [hg]; exact HL.out.size) : W0.heap.size ≤ gt); have nG_ := As.mk (rng_below HRG.out hb); have ngx_ := As.mk (kB (g := gx) (o := .cells #[(.string q.dflt), (.bool true), (.func (.func g) #[] lb)] 68 (0, 0)) (by (with_reducible repeat (first | refine kN ?_ _ | refine kD ?_ | refine kA ?_ _)); exact BKgx.out) hb); have nL_ := As.mk (LI.later HL.out hb); clear BKgx; have BKgx := ngx_; clear ngx_; clear HL; have HL := nL_; clear nL_; clear HRG; have HRG := nG_; clear nG_; have BKgt := As.mk hbox; clear hb hbox hg; have c29_gx_0 : w29.cell? ⟨gx, 0, none⟩ = some ((.string q.dflt)) := (kC BKgx.out 0).trans rfl; have f29_gx_0 := kF BKgx.out 0; have c29_gx_1 : w29.cell? ⟨gx, 1, none⟩ = some ((.bool true)) := (kC BKgx.out 1).trans rfl; have f29_gx_1 := kF BKgx.out 1; have c29_gx_2 : w29.cell? ⟨gx, 2, none⟩ = some ((.func (.func g) #[] lb)) := (kC BKgx.out 2).trans rfl; have f29_gx_2 := kF BKgx.out 2; have c29_gt_0 : w29.cell? ⟨gt, 0, none⟩ = some (.string (⟨#[]⟩ : ByteArray)) := (kC BKgt.out 0).trans rfl; have f29_gt_0 := kF BKgt.out 0) | ((with_reducible refine gate_store (t := 64) (p := 17) rfl ?_); refine store_event (t := 64) (p := 17) (v := ?vo30) (w1 := ?wo30) ?hg ?ho ?hn ?hr ?_; (case ho => rfl); (case hg => rfl); (case hn => rfl); (case hr => first | (go_simp; done) | (go_simp; rfl)); intro w30 hw; have ngx_ := As.mk ((by rw [hw]; (repeat refine kR ?_ NEgx_gt.out _); (with_reducible repeat (first | refine kN ?_ _ | refine kD ?_ | refine kA ?_ _)); exact BKgx.out) : w30.heap[gx]? = some (.cells #[(.string q.dflt), (.bool true), (.func (.func g) #[] lb)] 68 (0, 0))); have ngt_ := As.mk ((by rw [hw]; refine kP (cs := #[.string (⟨#[]⟩ : ByteArray)]) ?_ 0 _ rfl; (with_reducible repeat (first | refine kN ?_ _ | refine kD ?_ | refine kA ?_ _)); exact BKgt.out) : w30.heap[gt]? = some (.cells #[(.string (⟨#[]⟩ : ByteArray))] 64 (0, 0))); have nG_ := As.mk (rng_set (i := 0) (v := (.string (⟨#[]⟩ : ByteArray))) (HRG.out) (BKgt.out)); rw [← hw] at nG_; have nL_ := As.mk (LI.set (i := 0) (v := (.string (⟨#[]⟩ : ByteArray))) (HL.out) (BKgt.out) GEgt.out); rw [← hw] at nL_; clear BKgx; have BKgx := ngx_; clear ngx_; clear BKgt; have BKgt := ngt_; clear ngt_; clear HL; have HL := nL_; clear nL_; clear HRG; have HRG := nG_; clear nG_; clear hw; have c30_gx_0 : w30.cell? ⟨gx, 0, none⟩ = some ((.string q.dflt)) := (kC BKgx.out 0).trans rfl; have f30_gx_0 := kF BKgx.out 0; have c30_gx_1 : w30.cell? ⟨gx, 1, none⟩ = some ((.bool true)) := (kC BKgx.out 1).trans rfl; have f30_gx_1 := kF BKgx.out 1; have c30_gx_2 : w30.cell? ⟨gx, 2, none⟩ = some ((.func (.func g) #[] lb)) := (kC BKgx.out 2).trans rfl; have f30_gx_2 := kF BKgx.out 2; have c30_gt_0 : w30.cell? ⟨gt, 0, none⟩ = some ((.string (⟨#[]⟩ : ByteArray))) := (kC BKgt.out 0).trans rfl; have f30_gt_0 := kF BKgt.out 0; have zt0 : w30.cell? ⟨g2, 0, none⟩ = some (.string (⟨#[]⟩ : ByteArray)) := (kC HL.out.k2 0).trans rfl; have yt0 := kF HL.out.k2 0; have zt1 : w30.cell? ⟨g2, 1, none⟩ = some (.string (⟨#[]⟩ : ByteArray)) := (kC HL.out.k2 1).trans rfl; have yt1 := kF HL.out.k2 1; have zt2 : w30.cell? ⟨g2, 2, none⟩ = some (.slice none 0 0) := (kC HL.out.k2 2).trans rfl; have yt2 := kF HL.out.k2 2))
                refine bodyPost_ret (results_ct rfl _ _ g2 24 #[.string (⟨#[]⟩ : ByteArray), .string (⟨#[]⟩ : ByteArray), .slice none 0 0] (0, 0) _ rfl (by (with_reducible repeat (first | refine kN ?_ _ | refine kD ?_ | refine kA ?_ _)); refine kP (cs := #[.string (⟨#[]⟩ : ByteArray), .string (⟨#[]⟩ : ByteArray), .slice none 0 0]) ?_ 2 _ rfl; refine kP (cs := #[.string (⟨#[]⟩ : ByteArray), .string (⟨#[]⟩ : ByteArray), .slice none 0 0]) ?_ 1 _ rfl; refine kP (cs := #[.string (⟨#[]⟩ : ByteArray), .string (⟨#[]⟩ : ByteArray), .slice none 0 0]) ?_ 0 _ rfl; (with_reducible repeat (first | refine kN ?_ _ | refine kD ?_ | refine kA ?_ _)); exact HL.out.k2) Tryz.underlying24 rfl (by kernel_rfl)) rfl ?_
                exact .inr ⟨HOK.out, .inl ⟨lacks_true HFQ.out HMU.out (tAt_none (by rw [HTA.out]; rfl)), rfl, (by repeat (first | exact HL.out.below | refine bS ?_ HL.out.e2))⟩⟩
              | false =>
                have HMU := As.mk hmu
                rw [hmu] at hen
                clear hmu
                go_wp2_with (first | ((with_reducible refine gate_dst (N := 16) rfl ?_); refine box_event ?hg (N := 16) ?hd (cs := #[.string (⟨#[]⟩ : ByteArray), .bool false, .nilFunc]) (t := 68) ?hr ?_; (case hd => rfl); (case hg => rfl); (case hr => first | (go_simp; done) | (go_simp; rfl)); intro gx hg w31 hbox hb; have GEgx := As.mk ((by rw [hg]; exact HL.out.size) : W0.heap.size ≤ gx); have nG_ := As.mk (rng_below HRG.out hb); have nL_ := As.mk (LI.later HL.out hb); clear HL; have HL := nL_; clear nL_; clear HRG; have HRG := nG_; clear nG_; have BKgx := As.mk hbox; clear hb hbox hg; have c31_gx_0 : w31.cell? ⟨gx, 0, none⟩ = some (.string (⟨#[]⟩ : ByteArray)) := (kC BKgx.out 0).trans rfl; have f31_gx_0 := kF BKgx.out 0; have c31_gx_1 : w31.cell? ⟨gx, 1, none⟩ = some (.bool false) := (kC BKgx.out 1).trans rfl; have f31_gx_1 := kF BKgx.out 1; have c31_gx_2 : w31.cell? ⟨gx, 2, none⟩ = some (.nilFunc) := (kC BKgx.out 2).trans rfl; have f31_gx_2 := kF BKgx.out 2) | ((with_reducible refine gate_store (t := 68) (p := 16) rfl ?_); refine store_event (t := 68) (p := 16) (v := ?vo32) (w1 := ?wo32) ?hg ?ho ?hn ?hr ?_; (case ho => rfl); (case hg => rfl); (case hn => rfl); (case hr => first | (go_simp; done) | (go_simp; rfl)); intro w32 hw; have ngx_ := As.mk ((by rw [hw]; refine kP (cs := #[(.string q.dflt), (.bool false), .nilFunc]) ?_ 2 _ rfl; refine kP (cs := #[(.string q.dflt), .bool false, .nilFunc]) ?_ 1 _ rfl; refine kP (cs := #[.string (⟨#[]⟩ : ByteArray), .bool false, .nilFunc]) ?_ 0 _ rfl; (with_reducible repeat (first | refine kN ?_ _ | refine kD ?_ | refine kA ?_ _)); exact BKgx.out) : w32.heap[gx]? = some (.cells #[(.string q.dflt), (.bool false), (.func (.func g) #[] lb)] 68 (0, 0))); have nG_ := As.mk (rng_set (i := 2) (v := (.func (.func g) #[] lb)) (rng_set (i := 1) (v := (.bool false)) (rng_set (i := 0) (v := (.string q.dflt)) (HRG.out) (BKgx.out)) (kP (cs' := #[(.string q.dflt), .bool false, .nilFunc]) (BKgx.out) 0 ((.string q.dflt)) rfl)) (kP (cs' := #[(.string q.dflt), (.bool false), .nilFunc]) (kP (cs' := #[(.string q.dflt), .bool false, .nilFunc]) (BKgx.out) 0 ((.string q.dflt)) rfl) 1 ((.bool false)) rfl)); rw [← hw] at nG_; have nL_ := As.mk (LI.set (i := 2) (v := (.func (.func g) #[] lb)) (LI.set (i := 1) (v := (.bool false)) (LI.set (i := 0) (v := (.string q.dflt)) (HL.out) (BKgx.out) GEgx.out) (kP (cs' := #[(.string q.dflt), .bool false, .nilFunc]) (BKgx.out) 0 ((.string q.dflt)) rfl) GEgx.out) (kP (cs' := #[(.string q.dflt), (.bool false), .nilFunc]) (kP (cs' := #[(.string q.dflt), .bool false, .nilFunc]) (BKgx.out) 0 ((.string q.dflt)) rfl) 1 ((.bool false)) rfl) GEgx.out); rw [← hw] at nL_; clear BKgx; have BKgx := ngx_; clear ngx_; clear HL; have HL := nL_; clear nL_; clear HRG; have HRG := nG_; clear nG_; clear hw; have c32_gx_0 : w32.cell? ⟨gx, 0, none⟩ = some ((.string q.dflt)) := (kC BKgx.out 0).trans rfl; have f32_gx_0 := kF BKgx.out 0; have c32_gx_1 : w32.cell? ⟨gx, 1, none⟩ = some ((.bool false)) := (kC BKgx.out 1).trans rfl; have f32_gx_1 := kF BKgx.out 1; have c32_gx_2 : w32.cell? ⟨gx, 2, none⟩ = some ((.func (.func g) #[] lb)) := (kC BKgx.out 2).trans rfl; have f32_gx_2 := kF BKgx.out 2) | ((with_reducible refine gate_look rfl ?_); refine look_told_none HI.out HL.out.has rfl _ _ rfl rfl x rfl hxs HTA.out ?_) | ((with_reducible refine gate_dst (N := 17) rfl ?_); refine box_event ?hg (N := 17) ?hd (cs := #[.string (⟨#[]⟩ : ByteArray)]) (t := 64) ?hr ?_; (case hd => rfl); (case hg => rfl); (case hr => first | (go_simp; done) | (go_simp; rfl)); intro gt hg w33 hbox hb; have NEgx_gt := As.mk ((by rw [hg]; exact Nat.ne_of_lt (blk_lt (w := _) BKgx.out)) : gx ≠ gt); have GEgt := As.mk ((by rw [hg]; exact HL.out.size) : W0.heap.size ≤ gt); have nG_ := As.mk (rng_below HRG.out hb); have ngx_ := As.mk (kB (g := gx) (o := .cells #[(.string q.dflt), (.bool false), (.func (.func g) #[] lb)] 68 (0, 0)) (by (with_reducible repeat (first | refine kN ?_ _ | refine kD ?_ | refine kA ?_ _)); exact BKgx.out) hb); have nL_ := As.mk (LI.later HL.out hb); clear BKgx; have BKgx := ngx_; clear ngx_; clear HL; have HL := nL_; clear nL_; clear HRG; have HRG := nG_; clear nG_; have BKgt := As.mk hbox; clear hb hbox hg; have c33_gx_0 : w33.cell? ⟨gx, 0, none⟩ = some ((.string q.dflt)) := (kC BKgx.out 0).trans rfl; have f33_gx_0 := kF BKgx.out 0; have c33_gx_1 : w33.cell? ⟨gx, 1, none⟩ = some ((.bool false)) := (kC BKgx.out 1).trans rfl; have f33_gx_1 := kF BKgx.out 1; have c33_gx_2 : w33.cell? ⟨gx, 2, none⟩ = some ((.func (.func g) #[] lb)) := (kC BKgx.out 2).trans rfl; have f33_gx_2 := kF BKgx.out 2; have c33_gt_0 : w33.cell? ⟨gt, 0, none⟩ = some (.string (⟨#[]⟩ : ByteArray)) := (kC BKgt.out 0).trans rfl; have f33_gt_0 := kF BKgt.out 0) | ((with_reducible refine gate_store (t := 64) (p := 17) rfl ?_); refine store_event (t := 64) (p := 17) (v := ?vo34) (w1 := ?wo34) ?hg ?ho ?hn ?hr ?_; (case ho => rfl); (case hg => rfl); (case hn => rfl); (case hr => first | (go_simp; done) | (go_simp; rfl)); intro w34 hw; have ngx_ := As.mk ((by rw [hw]; (repeat refine kR ?_ NEgx_gt.out _); (with_reducible repeat (first | refine kN ?_ _ | refine kD ?_ | refine kA ?_ _)); exact BKgx.out) : w34.heap[gx]? = some (.cells #[(.string q.dflt), (.bool false), (.func (.func g) #[] lb)] 68 (0, 0))); have ngt_ := As.mk ((by rw [hw]; refine kP (cs := #[.string (⟨#[]⟩ : ByteArray)]) ?_ 0 _ rfl; (with_reducible repeat (first | refine kN ?_ _ | refine kD ?_ | refine kA ?_ _)); exact BKgt.out) : w34.heap[gt]? = some (.cells #[(.string (⟨#[]⟩ : ByteArray))] 64 (0, 0))); have nG_ := As.mk (rng_set (i := 0) (v := (.string (⟨#[]⟩ : ByteArray))) (HRG.out) (BKgt.out)); rw [← hw] at nG_; have nL_ := As.mk (LI.set (i := 0) (v := (.string (⟨#[]⟩ : ByteArray))) (HL.out) (BKgt.out) GEgt.out); rw [← hw] at nL_; clear BKgx; have BKgx := ngx_; clear ngx_; clear BKgt; have BKgt := ngt_; clear ngt_; clear HL; have HL := nL_; clear nL_; clear HRG; have HRG := nG_; clear nG_; clear hw; have c34_gx_0 : w34.cell? ⟨gx, 0, none⟩ = some ((.string q.dflt)) := (kC BKgx.out 0).trans rfl; have f34_gx_0 := kF BKgx.out 0; have c34_gx_1 : w34.cell? ⟨gx, 1, none⟩ = some ((.bool false)) := (kC BKgx.out 1).trans rfl; have f34_gx_1 := kF BKgx.out 1; have c34_gx_2 : w34.cell? ⟨gx, 2, none⟩ = some ((.func (.func g) #[] lb)) := (kC BKgx.out 2).trans rfl; have f34_gx_2 := kF BKgx.out 2; have c34_gt_0 : w34.cell? ⟨gt, 0, none⟩ = some ((.string (⟨#[]⟩ : ByteArray))) := (kC BKgt.out 0).trans rfl; have f34_gt_0 := kF BKgt.out 0) | ((with_reducible refine gate_update rfl ?_); refine wpList_update_held _ rfl _ _ _ 65 rfl 9 64 Tryz.underlying9 Tryz.underlying65 (wc.heap.size) nD D rfl HL.out.has (by have h1 := HNB.out; have h2 := HS8.out; have h3 := HL.out.ni8; unfold maxLen; omega) x _ rfl rfl hxs ?_; intro wU ho hg; have HL2 := As.mk (LI.put HL.out ho hg); have HRG2 := As.mk (rng_put HRG.out HL.out.has hg HL.out.ne); clear ho hg))
                go_roundg cnt2
                case measure => exact HLT.out
                case rel => exact ⟨_, _, _, HRG2, HL2, ⟨Inv2.add HI.out HLX.out (by rw [HTA.out]; rfl) HFQ.out HMU.out⟩, ⟨by have h1 := HNB.out; have h2 := HLT.out; omega⟩⟩
end Go.Proofs.YtkgafkoopefghaaGreatDoor.PA
end
section
set_option linter.unusedVariables false
set_option linter.unusedSimpArgs false
namespace Go.Proofs.YtkgafkoopefghaaGreatDoor.PA
open Go.RowKit Go.Maps Go.WideMaps Go.Proofs.YtkgafkoopefghaaGreatDoor.Hk Go.Proofs.YtkgafkoopefghaaGreatDoorW.PrintWords Go.Proofs.YtkgafkoopefghaaGreatDoorW.PrintLast
theorem getS_fit {n v : ByteArray} : ∀ {l : List S31}, fitP l = true → getS l n = some v → v.size < 2147483648
  | [], _, h => by cases h
  | p :: r, hf, h => by
    unfold fitP at hf
    simp only [List.all_cons, Bool.and_eq_true, decide_eq_true_eq] at hf
    unfold getS at h
    by_cases e : p.f0.toList = n.toList
    · rw [if_pos e] at h
      cases h
      exact hf.1.2
    · rw [if_neg e] at h
      exact getS_fit (l := r) (by unfold fitP; exact hf.2) h
def FullEnd (a b : ByteArray) (l : List S31) (n : Int) (w : World) (e : Ending) (w' : World) : Prop := ∃ v2_ : Value, e = .returned (.tuple #[.agg #[.string a, .string b, v2_], .int .i64 n]) ∧ Kd.R k31 31 w' w.heap.size (fun _ => True) v2_ l ∧ Below w.heap.size w w'
theorem refused_end {w : World} {n : Int} {e : Ending} {w' : World} (h : Refused w n e w') : FullEnd ⟨#[]⟩ ⟨#[]⟩ [] n w e w' := ⟨_, h.1, Kd.R_nil _ _ _ _ _, h.2⟩
theorem main_end {a b : ByteArray} {P : List S31} {ens : ByteArray} {rs : List (ByteArray × RuleD)} {w : World} {e : Ending} {w' : World}
    (h : (okP rs P = false ∧ Refused w 62 e w') ∨ (okP rs P = true ∧ ((lacks ens P rs = true ∧ Refused w 62 e w') ∨ (lacks ens P rs = false ∧ FullEnd a b (outS ens P rs) 0 w e w')))) :
    FullEnd (if okP rs P = true then (if lacks ens P rs = true then (⟨#[]⟩, ⟨#[]⟩, [], 62) else (a, b, outS ens P rs, (0 : Int))) else ((⟨#[]⟩ : ByteArray), (⟨#[]⟩ : ByteArray), ([] : List S31), (62 : Int))).1 (if okP rs P = true then (if lacks ens P rs = true then (⟨#[]⟩, ⟨#[]⟩, [], 62) else (a, b, outS ens P rs, (0 : Int))) else ((⟨#[]⟩ : ByteArray), (⟨#[]⟩ : ByteArray), ([] : List S31), (62 : Int))).2.1 (if okP rs P = true then (if lacks ens P rs = true then (⟨#[]⟩, ⟨#[]⟩, [], 62) else (a, b, outS ens P rs, (0 : Int))) else ((⟨#[]⟩ : ByteArray), (⟨#[]⟩ : ByteArray), ([] : List S31), (62 : Int))).2.2.1 (if okP rs P = true then (if lacks ens P rs = true then (⟨#[]⟩, ⟨#[]⟩, [], 62) else (a, b, outS ens P rs, (0 : Int))) else ((⟨#[]⟩ : ByteArray), (⟨#[]⟩ : ByteArray), ([] : List S31), (62 : Int))).2.2.2 w e w' := by
  rcases h with ⟨h1, h2⟩ | ⟨h1, ⟨h2, h3⟩ | ⟨h2, h3⟩⟩
  · rw [if_neg (by rw [h1]; simp)]; exact refused_end h2
  · rw [if_pos h1, if_pos h2]; exact refused_end h3
  · rw [if_pos h1, if_neg (by rw [h2]; simp)]; exact h3
theorem full_any (a0_0 a0_1 : ByteArray) (A0_2 : Option Addr) (c0_2 : Nat) (l0_2 : List (S31)) (w : World) (hU : UtfOk w) (hr0_2 : Kd.C k31 w A0_2 l0_2.length l0_2) (hc0_2 : l0_2.length ≤ c0_2) (hs : a0_1.size < 2147483648) (hlen : l0_2.length < 2147483648) (hfit : fitP l0_2 = true) :
    Calls Tryz.prog 11 #[.agg #[.string a0_0, .string a0_1, .slice A0_2 l0_2.length c0_2]] w (FullEnd (fullS a0_0 a0_1 l0_2).1 (fullS a0_0 a0_1 l0_2).2.1 (fullS a0_0 a0_1 l0_2).2.2.1 (fullS a0_0 a0_1 l0_2).2.2.2 w) := by
  unfold fullS
  cases hk : shapesD a0_0 with
  | none => exact (full_kind a0_0 a0_1 A0_2 c0_2 l0_2 w hk).mono fun e w' h => refused_end h
  | some q =>
    obtain ⟨first, specs⟩ := q
    have h1 := (tidy_shapes hk).2
    simp only []
    cases ht : titleS a0_0 a0_1 with
    | false =>
      rw [if_neg (by simp)]
      exact (full_title a0_0 a0_1 A0_2 c0_2 l0_2 w hU first specs hk hs ht).mono fun e w' h => refused_end h
    | true =>
      rw [if_pos rfl]
      obtain ⟨r, hg⟩ : ∃ r, getS l0_2 ensB = r := ⟨_, rfl⟩
      rw [hg]
      cases r with
      | none =>
        simp only [Option.getD_none]
        have hget : toldR (getS l0_2 ensB) = (⟨#[]⟩, false) := by rw [hg]; rfl
        cases hn : findK specs first with
        | none => exact (full_ensure a0_0 a0_1 A0_2 c0_2 l0_2 w hU hr0_2 hc0_2 hlen first specs hk hs ht _ _ hget first (by simp) h1 hn).mono fun e w' h => refused_end h
        | some rs => exact (full_main a0_0 a0_1 A0_2 c0_2 l0_2 w hU hr0_2 hc0_2 hlen first specs hk hs ht _ _ hget first (by simp) h1 hfit rs hn).mono fun e w' h => main_end h
      | some v =>
        simp only [Option.getD_some]
        have hget : toldR (getS l0_2 ensB) = (v, true) := by rw [hg]; rfl
        have h2 := getS_fit hfit hg
        cases hn : findK specs v with
        | none => exact (full_ensure a0_0 a0_1 A0_2 c0_2 l0_2 w hU hr0_2 hc0_2 hlen first specs hk hs ht _ _ hget v (by simp) h2 hn).mono fun e w' h => refused_end h
        | some rs => exact (full_main a0_0 a0_1 A0_2 c0_2 l0_2 w hU hr0_2 hc0_2 hlen first specs hk hs ht _ _ hget v (by simp) h2 hfit rs hn).mono fun e w' h => main_end h
theorem resource_Full.calls (a0_0 : ByteArray) (a0_1 : ByteArray) (A0_2 : Option Addr) (c0_2 : Nat) (l0_2 : List (S31)) (r1 : ByteArray) (r2 : ByteArray) (r3 : List (S31)) (r4 : Int) (w : World) (hr0_2 : Kd.C k31 w A0_2 l0_2.length l0_2) (hc0_2 : l0_2.length ≤ c0_2) (h : resource_Full.f a0_0 a0_1 l0_2 = some (r1, r2, r3, r4)) (hU : UtfOk w) :
    Calls Tryz.prog 11 #[.agg #[.string a0_0, .string a0_1, .slice A0_2 l0_2.length c0_2]] w fun e w' => ∃ v2_ : Value, e = .returned (.tuple #[.agg #[.string r1, .string r2, v2_], .int .i64 r4]) ∧ Kd.R k31 31 w' w.heap.size (fun _ => True) v2_ r3 ∧ Below w.heap.size w w' := by
  unfold resource_Full.f at h
  by_cases c : a0_0.size < 2147483648 ∧ a0_1.size < 2147483648 ∧ l0_2.length < 2147483648 ∧ fitP l0_2 = true
  · rw [if_pos c] at h
    have := full_any a0_0 a0_1 A0_2 c0_2 l0_2 w hU hr0_2 hc0_2 c.2.1 c.2.2.1 c.2.2.2
    have e := Option.some.inj h
    rw [e] at this
    exact this
  · rw [if_neg c] at h
    cases h
end Go.Proofs.YtkgafkoopefghaaGreatDoor.PA
end
section
set_option linter.unusedVariables false
set_option linter.unusedSimpArgs false
namespace Go.Proofs.YtkgafkoopefghaaGreatDoor.PA
open Go.RowKit Go.Maps Go.WideMaps Go.Proofs.YtkgafkoopefghaaGreatDoor.Hk Go.Proofs.YtkgafkoopefghaaGreatDoorW.PrintWords
theorem namesS_are {rs : List (ByteArray × RuleD)} {L : List (List UInt8)} (hp : (ensB.data.toList :: rs.map (·.1.data.toList)).Perm L) (hs : L.Pairwise (fun x y => leB x y = true)) : namesS rs = L := by
  unfold namesS
  refine List.Perm.eq_of_pairwise ?_ (List.pairwise_mergeSort ?_ ?_ _) hs ((List.mergeSort_perm _ _).trans hp)
  · intro a b _ _ h1 h2
    exact List.le_antisymm (of_decide_eq_true h1) (of_decide_eq_true h2)
  · intro a b c h1 h2
    exact decide_eq_true (List.le_trans (of_decide_eq_true h1) (of_decide_eq_true h2))
  · intro a b
    rcases List.le_total a b with h | h
    · simp [leB, h]
    · simp [leB, h]
def ensR (first : ByteArray) (P : List S31) : ByteArray := (getS P ensB).getD first
theorem fullS_ok {kind a : ByteArray} {P : List S31} (h : (fullS kind a P).2.2.2 = 0) : ∃ first specs rs, shapesD kind = some (first, specs) ∧ findK specs (ensR first P) = some rs ∧ okP rs P = true ∧ fullS kind a P = (kind, a, outS (ensR first P) P rs, 0) := by
  have hr : ∀ first, (getS P ensB).getD first = ensR first P := fun _ => rfl
  unfold fullS at h ⊢
  cases hs : shapesD kind with
  | none => rw [hs] at h; cases h
  | some q =>
    obtain ⟨first, specs⟩ := q
    rw [hs] at h
    simp only [hr] at h ⊢
    by_cases ht : titleS kind a = true
    · rw [if_pos ht] at h ⊢
      cases hf : findK specs (ensR first P) with
      | none => rw [hf] at h; cases h
      | some rs =>
        rw [hf] at h
        simp only [] at h ⊢
        by_cases c : okP rs P = true
        · rw [if_pos c] at h ⊢
          by_cases c2 : lacks (ensR first P) P rs = true
          · rw [if_pos c2] at h; cases h
          · rw [if_neg c2]
            exact ⟨first, specs, rs, rfl, hf, c, rfl⟩
        · rw [if_neg c] at h; cases h
    · rw [if_neg ht] at h; cases h
theorem full_f (a b : ByteArray) (l : List S31) (h : a.size < 2147483648 ∧ b.size < 2147483648 ∧ l.length < 2147483648 ∧ fitP l = true) : resource_Full.f a b l = some (fullS a b l) := by
  unfold resource_Full.f
  rw [if_pos h]
end Go.Proofs.YtkgafkoopefghaaGreatDoor.PA
end
